-- Laid by a program of this session out of the translation; Lean checks it.
import Derived.Test.YtnkkedkkjmehpaaPQux0
import Derived.Test.YtnkkedkkjmehpaaPQux1
import Derived.Test.YtnkkedkkjmehpaaPQux3
import Derived.Test.YtnkkedkkjmehpaaEQu
import Derived.Test.YtnkkedkkjmehpaaPQuy0
import Derived.Test.YtnkkedkkjmehpaaPQuyT
import Derived.Test.YtnkkedkkjmehpaaPQuyB
namespace Go.Proofs.Ytnkkedkkjmehpaa.PQu
open Go.RowKit Go.Proofs.Ytnkkedkkjmehpaa.EQu Go.Proofs.YtnkkedkkjmehpaaW.PrintWords Go.Proofs.YtnkkedkkjmehpaaW.PrintLast Go.Proofs.YtnkkedkkjmehpaaW.PrintMore
attribute [local go_sem] max2_int min2_int max_two min_two max_three min_three max_four min_four   -- for this text's walks alone
set_option linter.unusedVariables false
set_option linter.unusedSimpArgs false

set_option maxHeartbeats 8000000 in
set_option maxRecDepth 100000 in
theorem footwaylaw09_QueueTells.calls (k : Nat) (a0 : Int) (a1_0 : Int) (A1_1 : Option Addr) (c1_1 : Nat) (l1_1 : List ByteArray) (a1_2 : Int) (a2 : ByteArray) (r : Bool) (w : World) (hr1_1 : Kd.C Kd.string w A1_1 l1_1.length l1_1) (hc1_1 : l1_1.length ≤ c1_1) (h : footwaylaw09_QueueTells.f k a0 a1_0 l1_1 a1_2 a2 = some r) :
    Calls Try.prog 5 #[.int .i64 a0, .agg #[.int .i64 a1_0, .slice A1_1 l1_1.length c1_1, .int .i64 a1_2], .string a2] w fun e w' => e = .returned (.bool r) ∧ Below w.heap.size w w' := by
  have hu35 := Try.underlying35
  have HR1_1 := Aside0.mk hr1_1
  have HC1_1 := Aside0.mk hc1_1
  clear hr1_1 hc1_1
  have HB := Aside0.mk (Below.refl w.heap.size w)
  have H : ((footwaylaw09_few.f k a1_0 l1_1 a1_2).bind fun bt233 => (if 0 ≤ (mn (a2.size : Int) 130) then (if (mn (a2.size : Int) 130) ≤ (a2.size : Int) then ((queue_New.f a0).bind fun bt238 => ((queue_Push.f k bt233.1 bt233.2.1 bt233.2.2 (a2.extract 0 ((mn (a2.size : Int) 130) : Int).toNat)).bind fun bt245 => ((queue_Pop.f bt233.1 bt233.2.1 bt233.2.2).bind fun bt253 => ((queue_Clear.f bt233.1 bt233.2.1 bt233.2.2).bind fun bt261 => ((queue_Right.f bt233.1 bt233.2.1 bt233.2.2).bind fun t270 => ((footwayref09_Right.f k bt233.1 bt233.2.1 bt233.2.2).bind fun t271 => (if (t270 != t271) = true then (footwaylaw09_QueueTells.j0 k a0 (a2.extract 0 ((mn (a2.size : Int) 130) : Int).toNat) bt238.2.2.2 bt245.2.2.2.1 bt245.2.2.2.2 bt253.2.2.2.1 bt253.2.2.2.2 bt261.2.2.2.1 bt261.2.2.2.2 true bt233.1 bt233.2.1 bt233.2.2 bt238.1 bt238.2.1 bt238.2.2.1 bt245.1 bt245.2.1 bt245.2.2.1 bt253.1 bt253.2.1 bt253.2.2.1 bt261.1 bt261.2.1 bt261.2.2.1 0 0) else ((footwaylaw09_alive.f k).bind fun t272 => (footwaylaw09_QueueTells.j0 k a0 (a2.extract 0 ((mn (a2.size : Int) 130) : Int).toNat) bt238.2.2.2 bt245.2.2.2.1 bt245.2.2.2.2 bt253.2.2.2.1 bt253.2.2.2.2 bt261.2.2.2.1 bt261.2.2.2.2 (!t272) bt233.1 bt233.2.1 bt233.2.2 bt238.1 bt238.2.1 bt238.2.2.1 bt245.1 bt245.2.1 bt245.2.2.1 bt253.1 bt253.2.1 bt253.2.2.1 bt261.1 bt261.2.1 bt261.2.2.1 0 0))))))))) else (none)) else (none))) = some r := h
  clear h
  replace H := Option.bind_eq_some_iff.mp H
  obtain ⟨⟨t233, t234, t237⟩, A40, H⟩ := H
  replace H : (if 0 ≤ (mn (a2.size : Int) 130) then (if (mn (a2.size : Int) 130) ≤ (a2.size : Int) then ((queue_New.f a0).bind fun bt238 => ((queue_Push.f k t233 t234 t237 (a2.extract 0 ((mn (a2.size : Int) 130) : Int).toNat)).bind fun bt245 => ((queue_Pop.f t233 t234 t237).bind fun bt253 => ((queue_Clear.f t233 t234 t237).bind fun bt261 => ((queue_Right.f t233 t234 t237).bind fun t270 => ((footwayref09_Right.f k t233 t234 t237).bind fun t271 => (if (t270 != t271) = true then (footwaylaw09_QueueTells.j0 k a0 (a2.extract 0 ((mn (a2.size : Int) 130) : Int).toNat) bt238.2.2.2 bt245.2.2.2.1 bt245.2.2.2.2 bt253.2.2.2.1 bt253.2.2.2.2 bt261.2.2.2.1 bt261.2.2.2.2 true t233 t234 t237 bt238.1 bt238.2.1 bt238.2.2.1 bt245.1 bt245.2.1 bt245.2.2.1 bt253.1 bt253.2.1 bt253.2.2.1 bt261.1 bt261.2.1 bt261.2.2.1 0 0) else ((footwaylaw09_alive.f k).bind fun t272 => (footwaylaw09_QueueTells.j0 k a0 (a2.extract 0 ((mn (a2.size : Int) 130) : Int).toNat) bt238.2.2.2 bt245.2.2.2.1 bt245.2.2.2.2 bt253.2.2.2.1 bt253.2.2.2.2 bt261.2.2.2.1 bt261.2.2.2.2 (!t272) t233 t234 t237 bt238.1 bt238.2.1 bt238.2.2.1 bt245.1 bt245.2.1 bt245.2.2.1 bt253.1 bt253.2.1 bt253.2.2.1 bt261.1 bt261.2.1 bt261.2.2.1 0 0))))))))) else (none)) else (none)) = some r := H
  have A4 := Aside0.mk A40
  clear A40
  obtain ⟨ji5, hji5⟩ : ∃ j_ : Int, (mn (a2.size : Int) 130) = j_ := ⟨_, rfl⟩
  replace H : (if 0 ≤ (ji5) then (if (ji5) ≤ (a2.size : Int) then ((queue_New.f a0).bind fun bt238 => ((queue_Push.f k t233 t234 t237 (a2.extract 0 ((ji5) : Int).toNat)).bind fun bt245 => ((queue_Pop.f t233 t234 t237).bind fun bt253 => ((queue_Clear.f t233 t234 t237).bind fun bt261 => ((queue_Right.f t233 t234 t237).bind fun t270 => ((footwayref09_Right.f k t233 t234 t237).bind fun t271 => (if (t270 != t271) = true then (footwaylaw09_QueueTells.j0 k a0 (a2.extract 0 ((ji5) : Int).toNat) bt238.2.2.2 bt245.2.2.2.1 bt245.2.2.2.2 bt253.2.2.2.1 bt253.2.2.2.2 bt261.2.2.2.1 bt261.2.2.2.2 true t233 t234 t237 bt238.1 bt238.2.1 bt238.2.2.1 bt245.1 bt245.2.1 bt245.2.2.1 bt253.1 bt253.2.1 bt253.2.2.1 bt261.1 bt261.2.1 bt261.2.2.1 0 0) else ((footwaylaw09_alive.f k).bind fun t272 => (footwaylaw09_QueueTells.j0 k a0 (a2.extract 0 ((ji5) : Int).toNat) bt238.2.2.2 bt245.2.2.2.1 bt245.2.2.2.2 bt253.2.2.2.1 bt253.2.2.2.2 bt261.2.2.2.1 bt261.2.2.2.2 (!t272) t233 t234 t237 bt238.1 bt238.2.1 bt238.2.2.1 bt245.1 bt245.2.1 bt245.2.2.1 bt253.1 bt253.2.1 bt253.2.2.1 bt261.1 bt261.2.1 bt261.2.2.1 0 0))))))))) else (none)) else (none)) = some r := by first | (rw [hji5] at H; exact H) | (simp only [hji5] at H ⊢; exact H)
  (try rw [hji5] at A4)
  (try (have hji5h : ji5 ≤ 130 := by (rw [← hji5]; unfold mn; (repeat' split) <;> omega)))
  (try (have hji5g : ji5 ≤ 64 := by omega))
  (try (have hji5l : 0 ≤ ji5 := by (rw [← hji5]; unfold mn; (repeat' split) <;> omega)))
  (try (have hji5m : 0 ≤ ji5 := by omega))
  have hji5_ : (if 130 < (a2.size : Int) then 130 else (a2.size : Int)) = ji5 := hji5
  by_cases c6 : 0 ≤ (ji5)
  · rw [if_pos c6] at H
    have c6b0 := eq_true c6
    have c6b1 : decide (0 ≤ (ji5)) = true := decide_eq_true c6
    clear c6
    by_cases c7 : (ji5) ≤ (a2.size : Int)
    · rw [if_pos c7] at H
      have c7b0 := eq_true c7
      have c7b1 : decide ((ji5) ≤ (a2.size : Int)) = true := decide_eq_true c7
      clear c7
      replace H := Option.bind_eq_some_iff.mp H
      obtain ⟨⟨t238, t239, t242, t243⟩, A80, H⟩ := H
      replace H : ((queue_Push.f k t233 t234 t237 (a2.extract 0 ((ji5) : Int).toNat)).bind fun bt245 => ((queue_Pop.f t233 t234 t237).bind fun bt253 => ((queue_Clear.f t233 t234 t237).bind fun bt261 => ((queue_Right.f t233 t234 t237).bind fun t270 => ((footwayref09_Right.f k t233 t234 t237).bind fun t271 => (if (t270 != t271) = true then (footwaylaw09_QueueTells.j0 k a0 (a2.extract 0 ((ji5) : Int).toNat) t243 bt245.2.2.2.1 bt245.2.2.2.2 bt253.2.2.2.1 bt253.2.2.2.2 bt261.2.2.2.1 bt261.2.2.2.2 true t233 t234 t237 t238 t239 t242 bt245.1 bt245.2.1 bt245.2.2.1 bt253.1 bt253.2.1 bt253.2.2.1 bt261.1 bt261.2.1 bt261.2.2.1 0 0) else ((footwaylaw09_alive.f k).bind fun t272 => (footwaylaw09_QueueTells.j0 k a0 (a2.extract 0 ((ji5) : Int).toNat) t243 bt245.2.2.2.1 bt245.2.2.2.2 bt253.2.2.2.1 bt253.2.2.2.2 bt261.2.2.2.1 bt261.2.2.2.2 (!t272) t233 t234 t237 t238 t239 t242 bt245.1 bt245.2.1 bt245.2.2.1 bt253.1 bt253.2.1 bt253.2.2.1 bt261.1 bt261.2.1 bt261.2.2.1 0 0)))))))) = some r := H
      have A8 := Aside0.mk A80
      clear A80
      replace H := Option.bind_eq_some_iff.mp H
      obtain ⟨⟨t245, t246, t249, t250, t251⟩, A90, H⟩ := H
      replace H : ((queue_Pop.f t233 t234 t237).bind fun bt253 => ((queue_Clear.f t233 t234 t237).bind fun bt261 => ((queue_Right.f t233 t234 t237).bind fun t270 => ((footwayref09_Right.f k t233 t234 t237).bind fun t271 => (if (t270 != t271) = true then (footwaylaw09_QueueTells.j0 k a0 (a2.extract 0 ((ji5) : Int).toNat) t243 t250 t251 bt253.2.2.2.1 bt253.2.2.2.2 bt261.2.2.2.1 bt261.2.2.2.2 true t233 t234 t237 t238 t239 t242 t245 t246 t249 bt253.1 bt253.2.1 bt253.2.2.1 bt261.1 bt261.2.1 bt261.2.2.1 0 0) else ((footwaylaw09_alive.f k).bind fun t272 => (footwaylaw09_QueueTells.j0 k a0 (a2.extract 0 ((ji5) : Int).toNat) t243 t250 t251 bt253.2.2.2.1 bt253.2.2.2.2 bt261.2.2.2.1 bt261.2.2.2.2 (!t272) t233 t234 t237 t238 t239 t242 t245 t246 t249 bt253.1 bt253.2.1 bt253.2.2.1 bt261.1 bt261.2.1 bt261.2.2.1 0 0))))))) = some r := H
      have A9 := Aside0.mk A90
      clear A90
      replace H := Option.bind_eq_some_iff.mp H
      obtain ⟨⟨t253, t254, t257, t258, t259⟩, A100, H⟩ := H
      replace H : ((queue_Clear.f t233 t234 t237).bind fun bt261 => ((queue_Right.f t233 t234 t237).bind fun t270 => ((footwayref09_Right.f k t233 t234 t237).bind fun t271 => (if (t270 != t271) = true then (footwaylaw09_QueueTells.j0 k a0 (a2.extract 0 ((ji5) : Int).toNat) t243 t250 t251 t258 t259 bt261.2.2.2.1 bt261.2.2.2.2 true t233 t234 t237 t238 t239 t242 t245 t246 t249 t253 t254 t257 bt261.1 bt261.2.1 bt261.2.2.1 0 0) else ((footwaylaw09_alive.f k).bind fun t272 => (footwaylaw09_QueueTells.j0 k a0 (a2.extract 0 ((ji5) : Int).toNat) t243 t250 t251 t258 t259 bt261.2.2.2.1 bt261.2.2.2.2 (!t272) t233 t234 t237 t238 t239 t242 t245 t246 t249 t253 t254 t257 bt261.1 bt261.2.1 bt261.2.2.1 0 0)))))) = some r := H
      have A10 := Aside0.mk A100
      clear A100
      replace H := Option.bind_eq_some_iff.mp H
      obtain ⟨⟨t261, t262, t265, t266, t267⟩, A110, H⟩ := H
      replace H : ((queue_Right.f t233 t234 t237).bind fun t270 => ((footwayref09_Right.f k t233 t234 t237).bind fun t271 => (if (t270 != t271) = true then (footwaylaw09_QueueTells.j0 k a0 (a2.extract 0 ((ji5) : Int).toNat) t243 t250 t251 t258 t259 t266 t267 true t233 t234 t237 t238 t239 t242 t245 t246 t249 t253 t254 t257 t261 t262 t265 0 0) else ((footwaylaw09_alive.f k).bind fun t272 => (footwaylaw09_QueueTells.j0 k a0 (a2.extract 0 ((ji5) : Int).toNat) t243 t250 t251 t258 t259 t266 t267 (!t272) t233 t234 t237 t238 t239 t242 t245 t246 t249 t253 t254 t257 t261 t262 t265 0 0))))) = some r := H
      have A11 := Aside0.mk A110
      clear A110
      have HC12 := Aside0.mk H
      clear H
      go_enter Try.func5, Try.ntmps5
      try go_wp2_with (first | ((with_reducible refine gate_dst (N := 4) rfl ?_); refine box_event ?hg (N := 4) ?hd (cs := #[.int .i64 a1_0, .slice A1_1 l1_1.length c1_1, .int .i64 a1_2]) (t := 35) ?hr ?_; (case hd => rfl); (case hg => rfl); (case hr => first | (go_simp; done) | (go_simp; rfl)); intro gb232 hg w13 hbox hb; have n0_ := Aside0.mk (below_step (by repeat (first | (with_reducible first | exact HB.out | apply below_alloc | apply pw_below_drewN | apply below_drew1) | exact HB.out)) hb); have n1_ := Aside0.mk (hbox); have n2_ := Aside0.mk ((by rw [hg]; exact (below_size (by repeat (first | (with_reducible first | exact HB.out | apply below_alloc | apply pw_below_drewN | apply below_drew1) | exact HB.out))) : w.heap.size ≤ gb232)); have n3_ := Aside0.mk ((by rw [hg]; exact (below_size (by repeat (first | (with_reducible first | exact HB.out | apply below_alloc | apply pw_below_drewN | apply below_drew1) | exact HB.out))) : w.heap.size ≤ gb232)); clear HB; have HB := n0_; have BK232 := n1_; have GW232 := n2_; have GE232 := n3_; clear n0_ n1_ n2_ n3_; clear hb hbox hg))
      have n0_ := Aside0.mk (blk_drew BK232.out)
      have n1_ := Aside0.mk (below_drew1 HB.out)
      clear BK232
      clear HB
      have BK232 := n0_
      have HB := n1_
      clear n0_ n1_
      refine start_ (n := 9) (S := fun w' => w'.cell? ⟨gb232, 0, none⟩ = some (.int .i64 a1_0) ∧ w'.cell? ⟨gb232, 1, none⟩ = some (.slice A1_1 l1_1.length c1_1) ∧ w'.cell? ⟨gb232, 2, none⟩ = some (.int .i64 a1_2)) (ds := [7]) #[false, false, false, false, false, false, false, false, false] (by kernel_rfl) rfl rfl ⟨(blk_cell BK232.out 0).trans rfl, (blk_cell BK232.out 1).trans rfl, (blk_cell BK232.out 2).trans rfl⟩ (fun hHeld => ?_); refine with_tabW footwaylaw09_QueueTells.tab1 footwaylaw09_QueueTells.bits1 (fun HT_ HW_ => ?_)
      generalize w13.drew = w14 at BK232 HB hHeld ⊢
      refine pure_ (i := 2) (N := some 25) (v := ?_) (a' := ?_) #[false, false, true, false, false, false, false, false, false] rfl rfl (any_of HT_.out (by kernel_rfl)) (fun _ _ _ h => h) (Or.inl ⟨by rfl, ?_⟩) ?_ ?_
      rotate_left
      · intro w'
        go_simp
        with_reducible rfl
      rotate_left
      · simp only [Act.put, List.setIfInBounds_toArray, List.set_cons_zero, List.set_cons_succ, i64_w, i32_w]
        rfl
      refine pure_ (i := 3) (N := some 26) (v := ?_) (a' := ?_) #[false, false, true, true, false, false, false, false, false] rfl rfl (any_of HT_.out (by kernel_rfl)) (fun _ _ _ h => h) (Or.inl ⟨by rfl, ?_⟩) ?_ ?_
      rotate_left
      · intro w'
        go_simp
        with_reducible rfl
      rotate_left
      · simp only [Act.put, List.setIfInBounds_toArray, List.set_cons_zero, List.set_cons_succ, i64_w, i32_w]
        rfl
      refine pure_ (i := 4) (N := some 27) (v := ?_) (a' := ?_) #[false, false, true, true, true, false, false, false, false] rfl rfl (any_of HT_.out (by kernel_rfl)) (fun _ _ _ h => h) (Or.inl ⟨by rfl, ?_⟩) ?_ ?_
      rotate_left
      · intro w'
        go_simp
        with_reducible rfl
      rotate_left
      · simp only [Act.put, List.setIfInBounds_toArray, List.set_cons_zero, List.set_cons_succ, i64_w, i32_w]
        rfl
      refine pure_ (i := 5) (N := some 28) (v := ?_) (a' := ?_) #[false, false, true, true, true, true, false, false, false] rfl rfl (any_of HT_.out (by kernel_rfl)) (fun _ _ _ h => h) (Or.inl ⟨by rfl, ?_⟩) ?_ ?_
      rotate_left
      · intro w'
        go_simp
        with_reducible rfl
      rotate_left
      · simp only [Act.put, List.setIfInBounds_toArray, List.set_cons_zero, List.set_cons_succ, i64_w, i32_w]
        rfl
      refine pure_ (i := 6) (N := some 29) (v := ?_) (a' := ?_) #[false, false, true, true, true, true, true, false, false] rfl rfl (any_of HT_.out (by kernel_rfl)) (fun _ _ _ h => h) (Or.inl ⟨by rfl, ?_⟩) ?_ ?_
      rotate_left
      · intro w'
        go_simp
        with_reducible rfl
      rotate_left
      · simp only [Act.put, List.setIfInBounds_toArray, List.set_cons_zero, List.set_cons_succ, i64_w, i32_w]
        rfl
      refine take_ (i := 0) (N := some 23) (v := ?_) (a' := ?_) #[true, false, true, true, true, true, true, false, false] rfl rfl (take_ofW HT_.out HW_.out (by kernel_rfl)) (fun _ _ _ h => h) (Or.inl ⟨by rfl, ?_⟩) hHeld ?_ ?_
      rotate_left
      · rintro w' ⟨s0, s1, s2⟩
        go_simp
        with_reducible rfl
      rotate_left
      · simp only [Act.put, List.setIfInBounds_toArray, List.set_cons_zero, List.set_cons_succ, i64_w, i32_w]
        rfl
      refine one_ (i := 1) (N := some 24) #[true, true, true, true, true, true, true, false, false] rfl rfl (one_of HT_.out (by kernel_rfl)) (by decide) (fun K hK => ?_)
      refine goes_ Try.func20 (by kernel_rfl) rfl #[.agg #[.int .i64 a1_0, .slice A1_1 l1_1.length c1_1, .int .i64 a1_2]] (by rfl) rfl rfl (by (try simp only [List.map_toArray, List.map_cons, List.map_nil]); first | done | rfl | (simp only [List.length_drop, List.length_take]; rfl)) ?_
      with_reducible refine (footwaylaw09_few.calls k a1_0 _ _ l1_1 a1_2 t233 t234 t237 _ ?side1 ?side2 A4.out).mono ?_
      (case side1 => repeat (first | exact (Kd.C_below HR1_1.out HB.out) | (with_reducible refine Kd.C_alloc ?_ _) | (with_reducible refine Kd.C_drewN ?_ _) | (with_reducible refine Kd.C_drew ?_)))
      (case side2 => exact HC1_1.out)
      rintro e w15 ⟨v235, rfl, ho0, hb⟩
      refine ⟨_, rfl, ?_⟩
      have n0_ := Aside0.mk (Kd.R_lower ho0 (below_size (by repeat (first | (with_reducible first | exact HB.out | apply below_alloc | apply pw_below_drewN | apply below_drew1 | refine below_set ?_ GE232.out) | exact HB.out))))
      have n1_ := Aside0.mk (blk_below (g := gb232) (o := .cells #[.int .i64 a1_0, .slice A1_1 l1_1.length c1_1, .int .i64 a1_2] 35 (0, 0)) (by (with_reducible repeat (first | refine blk_drewN ?_ _ | refine blk_drew ?_ | refine blk_alloc ?_ _)); exact BK232.out) hb)
      have n2_ := Aside0.mk (below_step (by repeat (first | (with_reducible first | exact HB.out | apply below_alloc | apply pw_below_drewN | apply below_drew1 | refine below_set ?_ GE232.out) | exact HB.out)) hb)
      clear BK232
      clear HB
      have HO236 := n0_
      have BK232 := n1_
      have HB := n2_
      clear n0_ n1_ n2_
      (try clear hb)
      (try clear hb2)
      (try clear hk)
      (try clear hi)
      (try clear ho0)
      obtain ⟨Ao17, co17, eo17⟩ := Kd.R_slice HO236.out
      (first | subst eo17 | (injection eo17 with f1_ f2_ f3_; have f4_ := f1_.symm; have f5_ := f3_.symm; clear f1_ f2_ f3_; subst f4_; subst f5_))
      refine hK.out _ _ ⟨(blk_cell BK232.out 0).trans rfl, (blk_cell BK232.out 1).trans rfl, (blk_cell BK232.out 2).trans rfl⟩ (fun hHeld => ?_)
      clear hK K
      refine norm_ (a' := ?_) ?_ ?_
      rotate_left
      · show Act.put _ (some 24) _ = _
        simp only [Act.put, List.setIfInBounds_toArray, List.set_cons_zero, List.set_cons_succ, i64_w, i32_w]
        rfl
      refine last_ (i := 7) (N := none) #[true, true, true, true, true, true, true, true, false] rfl rfl (one_of HT_.out (by kernel_rfl)) (by decide) (fun K hK => ?_)
      have hs16 : w15.cell? ⟨gb232, 0, none⟩ = some (.int .i64 a1_0) := (blk_cell BK232.out 0).trans rfl
      have hfs16 := blk_frozen BK232.out 0
      have hs18 : w15.cell? ⟨gb232, 1, none⟩ = some (.slice A1_1 l1_1.length c1_1) := (blk_cell BK232.out 1).trans rfl
      have hfs18 := blk_frozen BK232.out 1
      have hs19 : w15.cell? ⟨gb232, 2, none⟩ = some (.int .i64 a1_2) := (blk_cell BK232.out 2).trans rfl
      have hfs19 := blk_frozen BK232.out 2
      refine skip_ (w1 := ?_) (by rfl) rfl ?_ ?_
      rotate_left
      · go_simp
        rfl
      refine hK.out _ _ ?_
      clear hK K
      refine pure_ (i := 8) (N := some 2) (v := ?_) (a' := ?_) #[true, true, true, true, true, true, true, true, true] rfl rfl (any_of HT_.out (by kernel_rfl)) (fun _ _ _ h => h) (Or.inl ⟨by rfl, ?_⟩) ?_ ?_
      rotate_left
      · intro w'
        go_simp
        with_reducible rfl
      rotate_left
      · simp only [Act.put, List.setIfInBounds_toArray, List.set_cons_zero, List.set_cons_succ, i64_w, i32_w]
        rfl
      refine done_ (done_of HT_.out (by kernel_rfl)) ?_
      go_upto_region 7 with (first | ((with_reducible refine gate_callee (f := 21) rfl ?_); refine goesL_ (some 32) rfl rfl Try.func21 (by kernel_rfl) rfl #[.int .i64 a0] rfl (by (try simp only [List.map_toArray, List.map_cons, List.map_nil]); first | done | rfl | (simp only [List.length_drop, List.length_take]; rfl)) ?_; (with_reducible refine (queue_New.calls a0 t238 t239 t242 t243 _ A8.out).mono ?_); rintro e w20 ⟨v240, rfl, ho0, hb⟩; refine ⟨_, rfl, ?_⟩; have n0_ := Aside0.mk (Kd.R_elder' (by (with_reducible repeat (first | apply Kd.R_alloc | apply Kd.R_drewN | apply Kd.R_drew)); exact (Kd.R_mono (Kd.R_far (p := ⟨gb232, 2, none⟩) (Kd.R_far (p := ⟨gb232, 1, none⟩) (Kd.R_far (p := ⟨gb232, 0, none⟩) (Kd.R_types HO236.out BK232.out (by decide)) (fun _ hk => hk.2) (.int .i64 t233)) (fun _ hk => hk.2) (.slice Ao17 t234.length co17)) (fun _ hk => hk.2) (.int .i64 t237)) (fun _ h_ => h_.1))) (Kd.R_base ho0) hb); have n1_ := Aside0.mk (Kd.R_lower (Kd.R_new' ho0 (Kd.R_lt (by (with_reducible repeat (first | apply Kd.R_alloc | apply Kd.R_drewN | apply Kd.R_drew)); exact (Kd.R_mono (Kd.R_far (p := ⟨gb232, 2, none⟩) (Kd.R_far (p := ⟨gb232, 1, none⟩) (Kd.R_far (p := ⟨gb232, 0, none⟩) (Kd.R_types HO236.out BK232.out (by decide)) (fun _ hk => hk.2) (.int .i64 t233)) (fun _ hk => hk.2) (.slice Ao17 t234.length co17)) (fun _ hk => hk.2) (.int .i64 t237)) (fun _ h_ => h_.1))))) (below_size (by repeat (first | (with_reducible first | exact HB.out | apply below_alloc | apply pw_below_drewN | apply below_drew1 | refine below_set ?_ GE232.out) | exact HB.out)))); have n2_ := Aside0.mk (blk_below (g := gb232) (o := .cells #[.int .i64 t233, .slice Ao17 t234.length co17, .int .i64 t237] 35 (0, 0)) (by (with_reducible repeat (first | refine blk_drewN ?_ _ | refine blk_drew ?_ | refine blk_alloc ?_ _)); refine blk_put (cs := #[.int .i64 t233, .slice Ao17 t234.length co17, .int .i64 a1_2]) ?_ 2 _ rfl; (with_reducible repeat (first | refine blk_drewN ?_ _ | refine blk_drew ?_ | refine blk_alloc ?_ _)); refine blk_put (cs := #[.int .i64 t233, .slice A1_1 l1_1.length c1_1, .int .i64 a1_2]) ?_ 1 _ rfl; (with_reducible repeat (first | refine blk_drewN ?_ _ | refine blk_drew ?_ | refine blk_alloc ?_ _)); refine blk_put (cs := #[.int .i64 a1_0, .slice A1_1 l1_1.length c1_1, .int .i64 a1_2]) ?_ 0 _ rfl; (with_reducible repeat (first | refine blk_drewN ?_ _ | refine blk_drew ?_ | refine blk_alloc ?_ _)); exact BK232.out) hb); have n3_ := Aside0.mk (below_step (by repeat (first | (with_reducible first | exact HB.out | apply below_alloc | apply pw_below_drewN | apply below_drew1 | refine below_set ?_ GE232.out) | exact HB.out)) hb); clear HO236; clear BK232; clear HB; have HO236 := n0_; have HO241 := n1_; have BK232 := n2_; have HB := n3_; clear n0_ n1_ n2_ n3_; (try clear hb); (try clear hb2); (try clear hk); (try clear hi); (try clear ho0)) | ((with_reducible refine gate_dst (N := 7) rfl ?_); refine box_event ?hg (N := 7) ?hd (cs := #[.int .i64 0, .slice none 0 0, .int .i64 0]) (t := 35) ?hr ?_; (case hd => rfl); (case hg => rfl); (case hr => first | (go_simp; done) | (go_simp; rfl)); intro gb244 hg w21 hbox hb; have n0_ := Aside0.mk (Kd.R_below (by (with_reducible repeat (first | apply Kd.R_alloc | apply Kd.R_drewN | apply Kd.R_drew)); exact HO236.out) hb); have n1_ := Aside0.mk (Kd.R_below (by (with_reducible repeat (first | apply Kd.R_alloc | apply Kd.R_drewN | apply Kd.R_drew)); exact HO241.out) hb); have n2_ := Aside0.mk (blk_below (g := gb232) (o := .cells #[.int .i64 t233, .slice Ao17 t234.length co17, .int .i64 t237] 35 (0, 0)) (by (with_reducible repeat (first | refine blk_drewN ?_ _ | refine blk_drew ?_ | refine blk_alloc ?_ _)); exact BK232.out) hb); have n3_ := Aside0.mk (below_step (by repeat (first | (with_reducible first | exact HB.out | apply below_alloc | apply pw_below_drewN | apply below_drew1 | refine below_set ?_ GE232.out) | exact HB.out)) hb); have n4_ := Aside0.mk (hbox); have n5_ := Aside0.mk ((by rw [hg]; exact (below_size (by repeat (first | (with_reducible first | exact HB.out | apply below_alloc | apply pw_below_drewN | apply below_drew1 | refine below_set ?_ GE232.out) | exact HB.out))) : w.heap.size ≤ gb244)); have n6_ := Aside0.mk ((by rw [hg]; exact (below_size (by repeat (first | (with_reducible first | exact HB.out | apply below_alloc | apply pw_below_drewN | apply below_drew1 | refine below_set ?_ GE232.out) | exact HB.out))) : w.heap.size ≤ gb244)); have n7_ := Aside0.mk ((by rw [hg]; exact Nat.ne_of_lt (blk_lt (g := gb232) (o := .cells #[.int .i64 t233, .slice Ao17 t234.length co17, .int .i64 t237] 35 (0, 0)) (by (with_reducible repeat (first | refine blk_drewN ?_ _ | refine blk_drew ?_ | refine blk_alloc ?_ _)); exact BK232.out)) : gb232 ≠ gb244)); have n8_ := Aside0.mk ((by rw [hg]; exact Nat.ne_of_gt (blk_lt (g := gb232) (o := .cells #[.int .i64 t233, .slice Ao17 t234.length co17, .int .i64 t237] 35 (0, 0)) (by (with_reducible repeat (first | refine blk_drewN ?_ _ | refine blk_drew ?_ | refine blk_alloc ?_ _)); exact BK232.out)) : gb244 ≠ gb232)); clear HO236; clear HO241; clear BK232; clear HB; have HO236 := n0_; have HO241 := n1_; have BK232 := n2_; have HB := n3_; have BK244 := n4_; have GW244 := n5_; have GE244 := n6_; have NB232_244 := n7_; have NB244_232 := n8_; clear n0_ n1_ n2_ n3_ n4_ n5_ n6_ n7_ n8_; clear hb hbox hg; have hnb22 := NB244_232.out; have hnc22 := NB232_244.out; have hcz23_0 : w21.cell? ⟨gb244, 0, none⟩ = some (.int .i64 0) := (blk_cell BK244.out 0).trans rfl; have hcz23_1 : w21.cell? ⟨gb244, 1, none⟩ = some (.slice none 0 0) := (blk_cell BK244.out 1).trans rfl; have hcz23_2 : w21.cell? ⟨gb244, 2, none⟩ = some (.int .i64 0) := (blk_cell BK244.out 2).trans rfl; have hfz23_0 := blk_frozen BK244.out 0; have hfz23_1 := blk_frozen BK244.out 1; have hfz23_2 := blk_frozen BK244.out 2; obtain ⟨Ao24, co24, eo24⟩ := Kd.R_slice HO241.out; subst eo24) | ((with_reducible refine gate_store (t := 35) (p := 7) rfl ?_); refine store_event (t := 35) (p := 7) (v := ?vo_w25) (w1 := (((w21.setCell ⟨gb244, 0, none⟩ (.int .i64 t238)).setCell ⟨gb244, 1, none⟩ (.slice Ao24 t239.length co24)).setCell ⟨gb244, 2, none⟩ (.int .i64 t242))) ?hg ?ho ?hn ?hr ?_; (case ho => rfl); (case hg => rfl); (case hn => rfl); (case hr => first | (go_simp; done) | (go_simp; rfl)); intro w25 hw; have n0_ : Aside0 (Kd.R Kd.string 9 w25 w.heap.size (fun k_ => some k_ ≠ (.slice Ao24 t239.length co24 : Value).ownBlock) (.slice Ao17 t234.length co17) t234) := ⟨(by rw [hw]; exact (by (with_reducible repeat (first | apply Kd.R_alloc | apply Kd.R_drewN | apply Kd.R_drew)); exact Kd.R_mono (Kd.R_far (p := ⟨gb244, 2, none⟩) (Kd.R_far (p := ⟨gb244, 1, none⟩) (Kd.R_far (p := ⟨gb244, 0, none⟩) (Kd.R_types HO236.out BK244.out (by decide)) (fun _ hk => hk.2) (.int .i64 t238)) (fun _ hk => hk.2) (.slice Ao24 t239.length co24)) (fun _ hk => hk.2) (.int .i64 t242)) (fun _ hk => hk.1.2)))⟩; have n1_ : Aside0 (Kd.R Kd.string 9 w25 w.heap.size (fun k_ => some k_ ≠ (.slice Ao17 t234.length co17 : Value).ownBlock) (.slice Ao24 t239.length co24) t239) := ⟨(by rw [hw]; exact (by (with_reducible repeat (first | apply Kd.R_alloc | apply Kd.R_drewN | apply Kd.R_drew)); exact Kd.R_mono (Kd.R_far (p := ⟨gb244, 2, none⟩) (Kd.R_far (p := ⟨gb244, 1, none⟩) (Kd.R_far (p := ⟨gb244, 0, none⟩) (Kd.R_types HO241.out BK244.out (by decide)) (fun _ hk => hk.2) (.int .i64 t238)) (fun _ hk => hk.2) (.slice Ao24 t239.length co24)) (fun _ hk => hk.2) (.int .i64 t242)) (fun _ hk => hk.1.2)))⟩; have n2_ : Aside0 (w25.heap[gb232]? = some (.cells #[.int .i64 t233, .slice Ao17 t234.length co17, .int .i64 t237] 35 (0, 0))) := ⟨(by rw [hw]; exact (by (with_reducible repeat (first | refine blk_drewN ?_ _ | refine blk_drew ?_ | refine blk_alloc ?_ _)); refine blk_far ?_ NB232_244.out _; (with_reducible repeat (first | refine blk_drewN ?_ _ | refine blk_drew ?_ | refine blk_alloc ?_ _)); refine blk_far ?_ NB232_244.out _; (with_reducible repeat (first | refine blk_drewN ?_ _ | refine blk_drew ?_ | refine blk_alloc ?_ _)); refine blk_far ?_ NB232_244.out _; (with_reducible repeat (first | refine blk_drewN ?_ _ | refine blk_drew ?_ | refine blk_alloc ?_ _)); exact BK232.out))⟩; have n3_ : Aside0 (w25.heap[gb244]? = some (.cells #[.int .i64 t238, .slice Ao24 t239.length co24, .int .i64 t242] 35 (0, 0))) := ⟨(by rw [hw]; exact (by (with_reducible repeat (first | refine blk_drewN ?_ _ | refine blk_drew ?_ | refine blk_alloc ?_ _)); refine blk_put (cs := #[.int .i64 t238, .slice Ao24 t239.length co24, .int .i64 0]) ?_ 2 _ rfl; (with_reducible repeat (first | refine blk_drewN ?_ _ | refine blk_drew ?_ | refine blk_alloc ?_ _)); refine blk_put (cs := #[.int .i64 t238, .slice none 0 0, .int .i64 0]) ?_ 1 _ rfl; (with_reducible repeat (first | refine blk_drewN ?_ _ | refine blk_drew ?_ | refine blk_alloc ?_ _)); refine blk_put (cs := #[.int .i64 0, .slice none 0 0, .int .i64 0]) ?_ 0 _ rfl; (with_reducible repeat (first | refine blk_drewN ?_ _ | refine blk_drew ?_ | refine blk_alloc ?_ _)); exact BK244.out))⟩; have n4_ : Aside0 (Below w.heap.size w w25) := ⟨(by rw [hw]; exact (by repeat (first | (with_reducible first | exact HB.out | apply below_alloc | apply pw_below_drewN | apply below_drew1 | refine below_set ?_ GE232.out | refine below_set ?_ GE244.out) | exact HB.out)))⟩; clear hw; clear HO236; clear HO241; clear BK232; clear BK244; clear HB; have HO236 := n0_; have HO241 := n1_; have BK232 := n2_; have BK244 := n3_; have HB := n4_; clear n0_ n1_ n2_ n3_ n4_; have hcz26_0 : w25.cell? ⟨gb232, 0, none⟩ = some (.int .i64 t233) := (blk_cell BK232.out 0).trans rfl; have hcz26_1 : w25.cell? ⟨gb232, 1, none⟩ = some (.slice Ao17 t234.length co17) := (blk_cell BK232.out 1).trans rfl; have hcz26_2 : w25.cell? ⟨gb232, 2, none⟩ = some (.int .i64 t237) := (blk_cell BK232.out 2).trans rfl; have hfz26_0 := blk_frozen BK232.out 0; have hfz26_1 := blk_frozen BK232.out 1; have hfz26_2 := blk_frozen BK232.out 2) | ((with_reducible refine gate_callee (f := 22) rfl ?_); refine goesL_ (some 38) rfl rfl Try.func22 (by kernel_rfl) rfl #[.agg #[.int .i64 t233, .slice Ao17 t234.length co17, .int .i64 t237], .string (a2.extract 0 ((ji5) : Int).toNat)] rfl (by (try simp only [List.map_toArray, List.map_cons, List.map_nil]); first | done | (simp only [hji5]; rfl) | rfl | (simp only [List.length_drop, List.length_take]; rfl)) ?_; (with_reducible refine (queue_Push.calls k t233 (fun k_ => some k_ = (.slice Ao17 t234.length co17 : Value).ownBlock) _ _ t234 t237 (a2.extract 0 ((ji5) : Int).toNat) t245 t246 t249 t250 t251 _ ?side1 A9.out).mono ?_); (case side1 => exact Kd.R_V (Kd.R_tight rfl (Kd.R_types (Kd.R_types (HO236.out) BK232.out (by decide)) BK244.out (by decide)))); rintro e w27 ⟨v247, rfl, ho0, hb⟩; refine ⟨_, rfl, ?_⟩; have n0_ := Aside0.mk (Kd.R_below (by (with_reducible repeat (first | apply Kd.R_alloc | apply Kd.R_drewN | apply Kd.R_drew)); exact HO236.out) hb); have n1_ := Aside0.mk (Kd.R_below (by (with_reducible repeat (first | apply Kd.R_alloc | apply Kd.R_drewN | apply Kd.R_drew)); exact HO241.out) hb); have n2_ := Aside0.mk (Kd.V_lower (Kd.V_mono (ok' := fun k_ => some k_ ≠ (.slice Ao24 t239.length co24 : Value).ownBlock ∧ k_ ≠ gb232 ∧ k_ ≠ gb244) ho0 (fun k_ hk_ => ⟨Or.elim hk_ (fun hs_ => ((Kd.R_types (Kd.R_types (HO236.out) BK232.out (by decide)) BK244.out (by decide)).1 k_ hs_.symm).1.1) (fun hn_ => (Kd.fresh' (Kd.R_lt (by (with_reducible repeat (first | apply Kd.R_alloc | apply Kd.R_drewN | apply Kd.R_drew)); exact HO241.out)) k_ hn_)), Or.elim hk_ (fun hs_ => ((Kd.R_types (Kd.R_types (HO236.out) BK232.out (by decide)) BK244.out (by decide)).1 k_ hs_.symm).1.2) (fun hn_ => (Kd.freshB (g := gb232) (o := .cells #[.int .i64 t233, .slice Ao17 t234.length co17, .int .i64 t237] 35 (0, 0)) (by (with_reducible repeat (first | refine blk_drewN ?_ _ | refine blk_drew ?_ | refine blk_alloc ?_ _)); exact BK232.out) k_ hn_)), Or.elim hk_ (fun hs_ => ((Kd.R_types (Kd.R_types (HO236.out) BK232.out (by decide)) BK244.out (by decide)).1 k_ hs_.symm).2) (fun hn_ => (Kd.freshB (g := gb244) (o := .cells #[.int .i64 t238, .slice Ao24 t239.length co24, .int .i64 t242] 35 (0, 0)) (by (with_reducible repeat (first | refine blk_drewN ?_ _ | refine blk_drew ?_ | refine blk_alloc ?_ _)); exact BK244.out) k_ hn_))⟩)) (below_size (by repeat (first | (with_reducible first | exact HB.out | apply below_alloc | apply pw_below_drewN | apply below_drew1 | refine below_set ?_ GE232.out | refine below_set ?_ GE244.out) | exact HB.out)))); have n3_ := Aside0.mk (blk_below (g := gb232) (o := .cells #[.int .i64 t233, .slice Ao17 t234.length co17, .int .i64 t237] 35 (0, 0)) (by (with_reducible repeat (first | refine blk_drewN ?_ _ | refine blk_drew ?_ | refine blk_alloc ?_ _)); exact BK232.out) hb); have n4_ := Aside0.mk (blk_below (g := gb244) (o := .cells #[.int .i64 t238, .slice Ao24 t239.length co24, .int .i64 t242] 35 (0, 0)) (by (with_reducible repeat (first | refine blk_drewN ?_ _ | refine blk_drew ?_ | refine blk_alloc ?_ _)); exact BK244.out) hb); have n5_ := Aside0.mk (below_step (by repeat (first | (with_reducible first | exact HB.out | apply below_alloc | apply pw_below_drewN | apply below_drew1 | refine below_set ?_ GE232.out | refine below_set ?_ GE244.out) | exact HB.out)) hb); clear HO236; clear HO241; clear BK232; clear BK244; clear HB; have HO236 := n0_; have HO241 := n1_; have HO248 := n2_; have BK232 := n3_; have BK244 := n4_; have HB := n5_; clear n0_ n1_ n2_ n3_ n4_ n5_; (try clear hb); (try clear hb2); (try clear hk); (try clear hi); (try clear ho0)) | ((with_reducible refine gate_dst (N := 9) rfl ?_); refine box_event ?hg (N := 9) ?hd (cs := #[.int .i64 0, .slice none 0 0, .int .i64 0]) (t := 35) ?hr ?_; (case hd => rfl); (case hg => rfl); (case hr => first | (go_simp; done) | (go_simp; rfl)); intro gb252 hg w28 hbox hb; have n0_ := Aside0.mk (Kd.R_below (by (with_reducible repeat (first | apply Kd.R_alloc | apply Kd.R_drewN | apply Kd.R_drew)); exact HO236.out) hb); have n1_ := Aside0.mk (Kd.R_below (by (with_reducible repeat (first | apply Kd.R_alloc | apply Kd.R_drewN | apply Kd.R_drew)); exact HO241.out) hb); have n2_ := Aside0.mk (Kd.V_below (Kd.V_elderB (by (with_reducible repeat (first | apply Kd.V_alloc | apply Kd.V_drewN | apply Kd.V_drew)); exact HO248.out) gb252 (Nat.le_of_eq hg.symm)) hb); have n3_ := Aside0.mk (blk_below (g := gb232) (o := .cells #[.int .i64 t233, .slice Ao17 t234.length co17, .int .i64 t237] 35 (0, 0)) (by (with_reducible repeat (first | refine blk_drewN ?_ _ | refine blk_drew ?_ | refine blk_alloc ?_ _)); exact BK232.out) hb); have n4_ := Aside0.mk (blk_below (g := gb244) (o := .cells #[.int .i64 t238, .slice Ao24 t239.length co24, .int .i64 t242] 35 (0, 0)) (by (with_reducible repeat (first | refine blk_drewN ?_ _ | refine blk_drew ?_ | refine blk_alloc ?_ _)); exact BK244.out) hb); have n5_ := Aside0.mk (below_step (by repeat (first | (with_reducible first | exact HB.out | apply below_alloc | apply pw_below_drewN | apply below_drew1 | refine below_set ?_ GE232.out | refine below_set ?_ GE244.out) | exact HB.out)) hb); have n6_ := Aside0.mk (hbox); have n7_ := Aside0.mk ((by rw [hg]; exact (below_size (by repeat (first | (with_reducible first | exact HB.out | apply below_alloc | apply pw_below_drewN | apply below_drew1 | refine below_set ?_ GE232.out | refine below_set ?_ GE244.out) | exact HB.out))) : w.heap.size ≤ gb252)); have n8_ := Aside0.mk ((by rw [hg]; exact (below_size (by repeat (first | (with_reducible first | exact HB.out | apply below_alloc | apply pw_below_drewN | apply below_drew1 | refine below_set ?_ GE232.out | refine below_set ?_ GE244.out) | exact HB.out))) : w.heap.size ≤ gb252)); have n9_ := Aside0.mk ((by rw [hg]; exact Nat.ne_of_lt (blk_lt (g := gb232) (o := .cells #[.int .i64 t233, .slice Ao17 t234.length co17, .int .i64 t237] 35 (0, 0)) (by (with_reducible repeat (first | refine blk_drewN ?_ _ | refine blk_drew ?_ | refine blk_alloc ?_ _)); exact BK232.out)) : gb232 ≠ gb252)); have n10_ := Aside0.mk ((by rw [hg]; exact Nat.ne_of_gt (blk_lt (g := gb232) (o := .cells #[.int .i64 t233, .slice Ao17 t234.length co17, .int .i64 t237] 35 (0, 0)) (by (with_reducible repeat (first | refine blk_drewN ?_ _ | refine blk_drew ?_ | refine blk_alloc ?_ _)); exact BK232.out)) : gb252 ≠ gb232)); have n11_ := Aside0.mk ((by rw [hg]; exact Nat.ne_of_lt (blk_lt (g := gb244) (o := .cells #[.int .i64 t238, .slice Ao24 t239.length co24, .int .i64 t242] 35 (0, 0)) (by (with_reducible repeat (first | refine blk_drewN ?_ _ | refine blk_drew ?_ | refine blk_alloc ?_ _)); exact BK244.out)) : gb244 ≠ gb252)); have n12_ := Aside0.mk ((by rw [hg]; exact Nat.ne_of_gt (blk_lt (g := gb244) (o := .cells #[.int .i64 t238, .slice Ao24 t239.length co24, .int .i64 t242] 35 (0, 0)) (by (with_reducible repeat (first | refine blk_drewN ?_ _ | refine blk_drew ?_ | refine blk_alloc ?_ _)); exact BK244.out)) : gb252 ≠ gb244)); clear HO236; clear HO241; clear HO248; clear BK232; clear BK244; clear HB; have HO236 := n0_; have HO241 := n1_; have HO248 := n2_; have BK232 := n3_; have BK244 := n4_; have HB := n5_; have BK252 := n6_; have GW252 := n7_; have GE252 := n8_; have NB232_252 := n9_; have NB252_232 := n10_; have NB244_252 := n11_; have NB252_244 := n12_; clear n0_ n1_ n2_ n3_ n4_ n5_ n6_ n7_ n8_ n9_ n10_ n11_ n12_; clear hb hbox hg; have hnb29 := NB252_232.out; have hnc29 := NB232_252.out; have hnb30 := NB252_244.out; have hnc30 := NB244_252.out; have hcz31_0 : w28.cell? ⟨gb252, 0, none⟩ = some (.int .i64 0) := (blk_cell BK252.out 0).trans rfl; have hcz31_1 : w28.cell? ⟨gb252, 1, none⟩ = some (.slice none 0 0) := (blk_cell BK252.out 1).trans rfl; have hcz31_2 : w28.cell? ⟨gb252, 2, none⟩ = some (.int .i64 0) := (blk_cell BK252.out 2).trans rfl; have hfz31_0 := blk_frozen BK252.out 0; have hfz31_1 := blk_frozen BK252.out 1; have hfz31_2 := blk_frozen BK252.out 2; obtain ⟨Ao32, co32, eo32⟩ := Kd.V_slice HO248.out; subst eo32) | ((with_reducible refine gate_store (t := 35) (p := 9) rfl ?_); refine store_event (t := 35) (p := 9) (v := ?vo_w33) (w1 := (((w28.setCell ⟨gb252, 0, none⟩ (.int .i64 t245)).setCell ⟨gb252, 1, none⟩ (.slice Ao32 t246.length co32)).setCell ⟨gb252, 2, none⟩ (.int .i64 t249))) ?hg ?ho ?hn ?hr ?_; (case ho => rfl); (case hg => rfl); (case hn => rfl); (case hr => first | (go_simp; done) | (go_simp; rfl)); intro w33 hw; have n0_ : Aside0 (Kd.R Kd.string 9 w33 w.heap.size (fun k_ => some k_ ≠ (.slice Ao24 t239.length co24 : Value).ownBlock) (.slice Ao17 t234.length co17) t234) := ⟨(by rw [hw]; exact (by (with_reducible repeat (first | apply Kd.R_alloc | apply Kd.R_drewN | apply Kd.R_drew)); exact Kd.R_mono (Kd.R_far (p := ⟨gb252, 2, none⟩) (Kd.R_far (p := ⟨gb252, 1, none⟩) (Kd.R_far (p := ⟨gb252, 0, none⟩) (Kd.R_types HO236.out BK252.out (by decide)) (fun _ hk => hk.2) (.int .i64 t245)) (fun _ hk => hk.2) (.slice Ao32 t246.length co32)) (fun _ hk => hk.2) (.int .i64 t249)) (fun _ hk => hk.1)))⟩; have n1_ : Aside0 (Kd.R Kd.string 9 w33 w.heap.size (fun k_ => some k_ ≠ (.slice Ao17 t234.length co17 : Value).ownBlock) (.slice Ao24 t239.length co24) t239) := ⟨(by rw [hw]; exact (by (with_reducible repeat (first | apply Kd.R_alloc | apply Kd.R_drewN | apply Kd.R_drew)); exact Kd.R_mono (Kd.R_far (p := ⟨gb252, 2, none⟩) (Kd.R_far (p := ⟨gb252, 1, none⟩) (Kd.R_far (p := ⟨gb252, 0, none⟩) (Kd.R_types HO241.out BK252.out (by decide)) (fun _ hk => hk.2) (.int .i64 t245)) (fun _ hk => hk.2) (.slice Ao32 t246.length co32)) (fun _ hk => hk.2) (.int .i64 t249)) (fun _ hk => hk.1)))⟩; have n2_ : Aside0 (Kd.V Kd.string 9 w33 w.heap.size (fun k_ => some k_ ≠ (.slice Ao24 t239.length co24 : Value).ownBlock ∧ k_ ≠ gb232 ∧ k_ ≠ gb244 ∧ k_ ≠ gb252) (.slice Ao32 t246.length co32) t246) := ⟨(by rw [hw]; exact (by (with_reducible repeat (first | apply Kd.V_alloc | apply Kd.V_drewN | apply Kd.V_drew)); exact Kd.V_mono (Kd.V_far (p := ⟨gb252, 2, none⟩) (Kd.V_far (p := ⟨gb252, 1, none⟩) (Kd.V_far (p := ⟨gb252, 0, none⟩) (Kd.V_mono HO248.out (fun k_ hk => (⟨hk, hk.2⟩ : _ ∧ k_ ≠ gb252))) (fun _ hk => hk.2) (.int .i64 t245)) (fun _ hk => hk.2) (.slice Ao32 t246.length co32)) (fun _ hk => hk.2) (.int .i64 t249)) (fun _ hk => ⟨hk.1.1.1, ⟨hk.1.1.2.1, ⟨hk.1.1.2.2, hk.1.2⟩⟩⟩)))⟩; have n3_ : Aside0 (w33.heap[gb232]? = some (.cells #[.int .i64 t233, .slice Ao17 t234.length co17, .int .i64 t237] 35 (0, 0))) := ⟨(by rw [hw]; exact (by (with_reducible repeat (first | refine blk_drewN ?_ _ | refine blk_drew ?_ | refine blk_alloc ?_ _)); refine blk_far ?_ NB232_252.out _; (with_reducible repeat (first | refine blk_drewN ?_ _ | refine blk_drew ?_ | refine blk_alloc ?_ _)); refine blk_far ?_ NB232_252.out _; (with_reducible repeat (first | refine blk_drewN ?_ _ | refine blk_drew ?_ | refine blk_alloc ?_ _)); refine blk_far ?_ NB232_252.out _; (with_reducible repeat (first | refine blk_drewN ?_ _ | refine blk_drew ?_ | refine blk_alloc ?_ _)); exact BK232.out))⟩; have n4_ : Aside0 (w33.heap[gb244]? = some (.cells #[.int .i64 t238, .slice Ao24 t239.length co24, .int .i64 t242] 35 (0, 0))) := ⟨(by rw [hw]; exact (by (with_reducible repeat (first | refine blk_drewN ?_ _ | refine blk_drew ?_ | refine blk_alloc ?_ _)); refine blk_far ?_ NB244_252.out _; (with_reducible repeat (first | refine blk_drewN ?_ _ | refine blk_drew ?_ | refine blk_alloc ?_ _)); refine blk_far ?_ NB244_252.out _; (with_reducible repeat (first | refine blk_drewN ?_ _ | refine blk_drew ?_ | refine blk_alloc ?_ _)); refine blk_far ?_ NB244_252.out _; (with_reducible repeat (first | refine blk_drewN ?_ _ | refine blk_drew ?_ | refine blk_alloc ?_ _)); exact BK244.out))⟩; have n5_ : Aside0 (w33.heap[gb252]? = some (.cells #[.int .i64 t245, .slice Ao32 t246.length co32, .int .i64 t249] 35 (0, 0))) := ⟨(by rw [hw]; exact (by (with_reducible repeat (first | refine blk_drewN ?_ _ | refine blk_drew ?_ | refine blk_alloc ?_ _)); refine blk_put (cs := #[.int .i64 t245, .slice Ao32 t246.length co32, .int .i64 0]) ?_ 2 _ rfl; (with_reducible repeat (first | refine blk_drewN ?_ _ | refine blk_drew ?_ | refine blk_alloc ?_ _)); refine blk_put (cs := #[.int .i64 t245, .slice none 0 0, .int .i64 0]) ?_ 1 _ rfl; (with_reducible repeat (first | refine blk_drewN ?_ _ | refine blk_drew ?_ | refine blk_alloc ?_ _)); refine blk_put (cs := #[.int .i64 0, .slice none 0 0, .int .i64 0]) ?_ 0 _ rfl; (with_reducible repeat (first | refine blk_drewN ?_ _ | refine blk_drew ?_ | refine blk_alloc ?_ _)); exact BK252.out))⟩; have n6_ : Aside0 (Below w.heap.size w w33) := ⟨(by rw [hw]; exact (by repeat (first | (with_reducible first | exact HB.out | apply below_alloc | apply pw_below_drewN | apply below_drew1 | refine below_set ?_ GE232.out | refine below_set ?_ GE244.out | refine below_set ?_ GE252.out) | exact HB.out)))⟩; clear hw; clear HO236; clear HO241; clear HO248; clear BK232; clear BK244; clear BK252; clear HB; have HO236 := n0_; have HO241 := n1_; have HO248 := n2_; have BK232 := n3_; have BK244 := n4_; have BK252 := n5_; have HB := n6_; clear n0_ n1_ n2_ n3_ n4_ n5_ n6_; have hcz34_0 : w33.cell? ⟨gb232, 0, none⟩ = some (.int .i64 t233) := (blk_cell BK232.out 0).trans rfl; have hcz34_1 : w33.cell? ⟨gb232, 1, none⟩ = some (.slice Ao17 t234.length co17) := (blk_cell BK232.out 1).trans rfl; have hcz34_2 : w33.cell? ⟨gb232, 2, none⟩ = some (.int .i64 t237) := (blk_cell BK232.out 2).trans rfl; have hfz34_0 := blk_frozen BK232.out 0; have hfz34_1 := blk_frozen BK232.out 1; have hfz34_2 := blk_frozen BK232.out 2) | ((with_reducible refine gate_callee (f := 23) rfl ?_); refine goesL_ (some 44) rfl rfl Try.func23 (by kernel_rfl) rfl #[.agg #[.int .i64 t233, .slice Ao17 t234.length co17, .int .i64 t237]] rfl (by (try simp only [List.map_toArray, List.map_cons, List.map_nil]); first | done | rfl | (simp only [List.length_drop, List.length_take]; rfl)) ?_; (with_reducible refine (queue_Pop.calls t233 (fun k_ => some k_ = (.slice Ao17 t234.length co17 : Value).ownBlock) _ _ t234 t237 t253 t254 t257 t258 t259 _ ?side1 A10.out).mono ?_); (case side1 => exact Kd.R_V (Kd.R_tight rfl (Kd.R_types (Kd.R_types (Kd.R_types (HO236.out) BK232.out (by decide)) BK244.out (by decide)) BK252.out (by decide)))); rintro e w35 ⟨v255, rfl, ho0, hb⟩; refine ⟨_, rfl, ?_⟩; have n0_ := Aside0.mk (Kd.R_below (by (with_reducible repeat (first | apply Kd.R_alloc | apply Kd.R_drewN | apply Kd.R_drew)); exact HO236.out) hb); have n1_ := Aside0.mk (Kd.R_below (by (with_reducible repeat (first | apply Kd.R_alloc | apply Kd.R_drewN | apply Kd.R_drew)); exact HO241.out) hb); have n2_ := Aside0.mk (Kd.V_below (by (with_reducible repeat (first | apply Kd.V_alloc | apply Kd.V_drewN | apply Kd.V_drew)); exact HO248.out) hb); have n3_ := Aside0.mk (Kd.V_lower (Kd.V_mono (ok' := fun k_ => some k_ ≠ (.slice Ao24 t239.length co24 : Value).ownBlock ∧ k_ ≠ gb232 ∧ k_ ≠ gb244 ∧ k_ ≠ gb252) ho0 (fun k_ hk_ => ⟨Or.elim hk_ (fun hs_ => ((Kd.R_types (Kd.R_types (Kd.R_types (HO236.out) BK232.out (by decide)) BK244.out (by decide)) BK252.out (by decide)).1 k_ hs_.symm).1.1.1) (fun hn_ => (Kd.fresh' (Kd.R_lt (by (with_reducible repeat (first | apply Kd.R_alloc | apply Kd.R_drewN | apply Kd.R_drew)); exact HO241.out)) k_ hn_)), Or.elim hk_ (fun hs_ => ((Kd.R_types (Kd.R_types (Kd.R_types (HO236.out) BK232.out (by decide)) BK244.out (by decide)) BK252.out (by decide)).1 k_ hs_.symm).1.1.2) (fun hn_ => (Kd.freshB (g := gb232) (o := .cells #[.int .i64 t233, .slice Ao17 t234.length co17, .int .i64 t237] 35 (0, 0)) (by (with_reducible repeat (first | refine blk_drewN ?_ _ | refine blk_drew ?_ | refine blk_alloc ?_ _)); exact BK232.out) k_ hn_)), Or.elim hk_ (fun hs_ => ((Kd.R_types (Kd.R_types (Kd.R_types (HO236.out) BK232.out (by decide)) BK244.out (by decide)) BK252.out (by decide)).1 k_ hs_.symm).1.2) (fun hn_ => (Kd.freshB (g := gb244) (o := .cells #[.int .i64 t238, .slice Ao24 t239.length co24, .int .i64 t242] 35 (0, 0)) (by (with_reducible repeat (first | refine blk_drewN ?_ _ | refine blk_drew ?_ | refine blk_alloc ?_ _)); exact BK244.out) k_ hn_)), Or.elim hk_ (fun hs_ => ((Kd.R_types (Kd.R_types (Kd.R_types (HO236.out) BK232.out (by decide)) BK244.out (by decide)) BK252.out (by decide)).1 k_ hs_.symm).2) (fun hn_ => (Kd.freshB (g := gb252) (o := .cells #[.int .i64 t245, .slice Ao32 t246.length co32, .int .i64 t249] 35 (0, 0)) (by (with_reducible repeat (first | refine blk_drewN ?_ _ | refine blk_drew ?_ | refine blk_alloc ?_ _)); exact BK252.out) k_ hn_))⟩)) (below_size (by repeat (first | (with_reducible first | exact HB.out | apply below_alloc | apply pw_below_drewN | apply below_drew1 | refine below_set ?_ GE232.out | refine below_set ?_ GE244.out | refine below_set ?_ GE252.out) | exact HB.out)))); have n4_ := Aside0.mk (blk_below (g := gb232) (o := .cells #[.int .i64 t233, .slice Ao17 t234.length co17, .int .i64 t237] 35 (0, 0)) (by (with_reducible repeat (first | refine blk_drewN ?_ _ | refine blk_drew ?_ | refine blk_alloc ?_ _)); exact BK232.out) hb); have n5_ := Aside0.mk (blk_below (g := gb244) (o := .cells #[.int .i64 t238, .slice Ao24 t239.length co24, .int .i64 t242] 35 (0, 0)) (by (with_reducible repeat (first | refine blk_drewN ?_ _ | refine blk_drew ?_ | refine blk_alloc ?_ _)); exact BK244.out) hb); have n6_ := Aside0.mk (blk_below (g := gb252) (o := .cells #[.int .i64 t245, .slice Ao32 t246.length co32, .int .i64 t249] 35 (0, 0)) (by (with_reducible repeat (first | refine blk_drewN ?_ _ | refine blk_drew ?_ | refine blk_alloc ?_ _)); exact BK252.out) hb); have n7_ := Aside0.mk (below_step (by repeat (first | (with_reducible first | exact HB.out | apply below_alloc | apply pw_below_drewN | apply below_drew1 | refine below_set ?_ GE232.out | refine below_set ?_ GE244.out | refine below_set ?_ GE252.out) | exact HB.out)) hb); clear HO236; clear HO241; clear HO248; clear BK232; clear BK244; clear BK252; clear HB; have HO236 := n0_; have HO241 := n1_; have HO248 := n2_; have HO256 := n3_; have BK232 := n4_; have BK244 := n5_; have BK252 := n6_; have HB := n7_; clear n0_ n1_ n2_ n3_ n4_ n5_ n6_ n7_; (try clear hb); (try clear hb2); (try clear hk); (try clear hi); (try clear ho0)) | ((with_reducible refine gate_dst (N := 12) rfl ?_); refine box_event ?hg (N := 12) ?hd (cs := #[.int .i64 0, .slice none 0 0, .int .i64 0]) (t := 35) ?hr ?_; (case hd => rfl); (case hg => rfl); (case hr => first | (go_simp; done) | (go_simp; rfl)); intro gb260 hg w36 hbox hb; have n0_ := Aside0.mk (Kd.R_below (by (with_reducible repeat (first | apply Kd.R_alloc | apply Kd.R_drewN | apply Kd.R_drew)); exact HO236.out) hb); have n1_ := Aside0.mk (Kd.R_below (by (with_reducible repeat (first | apply Kd.R_alloc | apply Kd.R_drewN | apply Kd.R_drew)); exact HO241.out) hb); have n2_ := Aside0.mk (Kd.V_below (Kd.V_elderB (by (with_reducible repeat (first | apply Kd.V_alloc | apply Kd.V_drewN | apply Kd.V_drew)); exact HO248.out) gb260 (Nat.le_of_eq hg.symm)) hb); have n3_ := Aside0.mk (Kd.V_below (Kd.V_elderB (by (with_reducible repeat (first | apply Kd.V_alloc | apply Kd.V_drewN | apply Kd.V_drew)); exact HO256.out) gb260 (Nat.le_of_eq hg.symm)) hb); have n4_ := Aside0.mk (blk_below (g := gb232) (o := .cells #[.int .i64 t233, .slice Ao17 t234.length co17, .int .i64 t237] 35 (0, 0)) (by (with_reducible repeat (first | refine blk_drewN ?_ _ | refine blk_drew ?_ | refine blk_alloc ?_ _)); exact BK232.out) hb); have n5_ := Aside0.mk (blk_below (g := gb244) (o := .cells #[.int .i64 t238, .slice Ao24 t239.length co24, .int .i64 t242] 35 (0, 0)) (by (with_reducible repeat (first | refine blk_drewN ?_ _ | refine blk_drew ?_ | refine blk_alloc ?_ _)); exact BK244.out) hb); have n6_ := Aside0.mk (blk_below (g := gb252) (o := .cells #[.int .i64 t245, .slice Ao32 t246.length co32, .int .i64 t249] 35 (0, 0)) (by (with_reducible repeat (first | refine blk_drewN ?_ _ | refine blk_drew ?_ | refine blk_alloc ?_ _)); exact BK252.out) hb); have n7_ := Aside0.mk (below_step (by repeat (first | (with_reducible first | exact HB.out | apply below_alloc | apply pw_below_drewN | apply below_drew1 | refine below_set ?_ GE232.out | refine below_set ?_ GE244.out | refine below_set ?_ GE252.out) | exact HB.out)) hb); have n8_ := Aside0.mk (hbox); have n9_ := Aside0.mk ((by rw [hg]; exact (below_size (by repeat (first | (with_reducible first | exact HB.out | apply below_alloc | apply pw_below_drewN | apply below_drew1 | refine below_set ?_ GE232.out | refine below_set ?_ GE244.out | refine below_set ?_ GE252.out) | exact HB.out))) : w.heap.size ≤ gb260)); have n10_ := Aside0.mk ((by rw [hg]; exact (below_size (by repeat (first | (with_reducible first | exact HB.out | apply below_alloc | apply pw_below_drewN | apply below_drew1 | refine below_set ?_ GE232.out | refine below_set ?_ GE244.out | refine below_set ?_ GE252.out) | exact HB.out))) : w.heap.size ≤ gb260)); have n11_ := Aside0.mk ((by rw [hg]; exact Nat.ne_of_lt (blk_lt (g := gb232) (o := .cells #[.int .i64 t233, .slice Ao17 t234.length co17, .int .i64 t237] 35 (0, 0)) (by (with_reducible repeat (first | refine blk_drewN ?_ _ | refine blk_drew ?_ | refine blk_alloc ?_ _)); exact BK232.out)) : gb232 ≠ gb260)); have n12_ := Aside0.mk ((by rw [hg]; exact Nat.ne_of_gt (blk_lt (g := gb232) (o := .cells #[.int .i64 t233, .slice Ao17 t234.length co17, .int .i64 t237] 35 (0, 0)) (by (with_reducible repeat (first | refine blk_drewN ?_ _ | refine blk_drew ?_ | refine blk_alloc ?_ _)); exact BK232.out)) : gb260 ≠ gb232)); have n13_ := Aside0.mk ((by rw [hg]; exact Nat.ne_of_lt (blk_lt (g := gb244) (o := .cells #[.int .i64 t238, .slice Ao24 t239.length co24, .int .i64 t242] 35 (0, 0)) (by (with_reducible repeat (first | refine blk_drewN ?_ _ | refine blk_drew ?_ | refine blk_alloc ?_ _)); exact BK244.out)) : gb244 ≠ gb260)); have n14_ := Aside0.mk ((by rw [hg]; exact Nat.ne_of_gt (blk_lt (g := gb244) (o := .cells #[.int .i64 t238, .slice Ao24 t239.length co24, .int .i64 t242] 35 (0, 0)) (by (with_reducible repeat (first | refine blk_drewN ?_ _ | refine blk_drew ?_ | refine blk_alloc ?_ _)); exact BK244.out)) : gb260 ≠ gb244)); have n15_ := Aside0.mk ((by rw [hg]; exact Nat.ne_of_lt (blk_lt (g := gb252) (o := .cells #[.int .i64 t245, .slice Ao32 t246.length co32, .int .i64 t249] 35 (0, 0)) (by (with_reducible repeat (first | refine blk_drewN ?_ _ | refine blk_drew ?_ | refine blk_alloc ?_ _)); exact BK252.out)) : gb252 ≠ gb260)); have n16_ := Aside0.mk ((by rw [hg]; exact Nat.ne_of_gt (blk_lt (g := gb252) (o := .cells #[.int .i64 t245, .slice Ao32 t246.length co32, .int .i64 t249] 35 (0, 0)) (by (with_reducible repeat (first | refine blk_drewN ?_ _ | refine blk_drew ?_ | refine blk_alloc ?_ _)); exact BK252.out)) : gb260 ≠ gb252)); clear HO236; clear HO241; clear HO248; clear HO256; clear BK232; clear BK244; clear BK252; clear HB; have HO236 := n0_; have HO241 := n1_; have HO248 := n2_; have HO256 := n3_; have BK232 := n4_; have BK244 := n5_; have BK252 := n6_; have HB := n7_; have BK260 := n8_; have GW260 := n9_; have GE260 := n10_; have NB232_260 := n11_; have NB260_232 := n12_; have NB244_260 := n13_; have NB260_244 := n14_; have NB252_260 := n15_; have NB260_252 := n16_; clear n0_ n1_ n2_ n3_ n4_ n5_ n6_ n7_ n8_ n9_ n10_ n11_ n12_ n13_ n14_ n15_ n16_; clear hb hbox hg; have hnb37 := NB260_232.out; have hnc37 := NB232_260.out; have hnb38 := NB260_244.out; have hnc38 := NB244_260.out; have hnb39 := NB260_252.out; have hnc39 := NB252_260.out; have hcz40_0 : w36.cell? ⟨gb260, 0, none⟩ = some (.int .i64 0) := (blk_cell BK260.out 0).trans rfl; have hcz40_1 : w36.cell? ⟨gb260, 1, none⟩ = some (.slice none 0 0) := (blk_cell BK260.out 1).trans rfl; have hcz40_2 : w36.cell? ⟨gb260, 2, none⟩ = some (.int .i64 0) := (blk_cell BK260.out 2).trans rfl; have hfz40_0 := blk_frozen BK260.out 0; have hfz40_1 := blk_frozen BK260.out 1; have hfz40_2 := blk_frozen BK260.out 2; obtain ⟨Ao41, co41, eo41⟩ := Kd.V_slice HO256.out; subst eo41; have hcz42_0 : w36.cell? ⟨gb232, 0, none⟩ = some (.int .i64 t233) := (blk_cell BK232.out 0).trans rfl; have hcz42_1 : w36.cell? ⟨gb232, 1, none⟩ = some (.slice Ao17 t234.length co17) := (blk_cell BK232.out 1).trans rfl; have hcz42_2 : w36.cell? ⟨gb232, 2, none⟩ = some (.int .i64 t237) := (blk_cell BK232.out 2).trans rfl; have hfz42_0 := blk_frozen BK232.out 0; have hfz42_1 := blk_frozen BK232.out 1; have hfz42_2 := blk_frozen BK232.out 2) | ((with_reducible refine gate_callee (f := 24) rfl ?_); refine goesL_ (some 50) rfl rfl Try.func24 (by kernel_rfl) rfl #[.agg #[.int .i64 t233, .slice Ao17 t234.length co17, .int .i64 t237]] rfl (by (try simp only [List.map_toArray, List.map_cons, List.map_nil]); first | done | rfl | (simp only [List.length_drop, List.length_take]; rfl)) ?_; (with_reducible refine (queue_Clear.calls t233 _ _ t234 t237 t261 t262 t265 t266 t267 _ ?side1 ?side2 A11.out).mono ?_); (case side1 => refine (Kd.R_reads' (e := 9) (base := w.heap.size) (ok := fun k_ => some k_ ≠ (.slice Ao24 t239.length co24 : Value).ownBlock) (n := t234.length) (c := co17) ?_).2.2; exact (by (with_reducible repeat (first | apply Kd.R_alloc | apply Kd.R_drewN | apply Kd.R_drew)); exact (Kd.R_mono (Kd.R_far (p := ⟨gb260, 2, none⟩) (Kd.R_far (p := ⟨gb260, 1, none⟩) (Kd.R_far (p := ⟨gb260, 0, none⟩) (Kd.R_types HO236.out BK260.out (by decide)) (fun _ hk => hk.2) (.int .i64 t253)) (fun _ hk => hk.2) (.slice Ao41 t254.length co41)) (fun _ hk => hk.2) (.int .i64 t257)) (fun _ h_ => h_.1)))); (case side2 => exact (Kd.R_reads' HO236.out).2.1); rintro e w43 ⟨v263, rfl, ho0, hb⟩; refine ⟨_, rfl, ?_⟩; have n0_ := Aside0.mk (Kd.R_elder' (by (with_reducible repeat (first | apply Kd.R_alloc | apply Kd.R_drewN | apply Kd.R_drew)); exact (Kd.R_mono (Kd.R_far (p := ⟨gb260, 2, none⟩) (Kd.R_far (p := ⟨gb260, 1, none⟩) (Kd.R_far (p := ⟨gb260, 0, none⟩) (Kd.R_types HO236.out BK260.out (by decide)) (fun _ hk => hk.2) (.int .i64 t253)) (fun _ hk => hk.2) (.slice Ao41 t254.length co41)) (fun _ hk => hk.2) (.int .i64 t257)) (fun _ h_ => h_.1))) (Kd.R_base ho0) hb); have n1_ := Aside0.mk (Kd.R_elder' (by (with_reducible repeat (first | apply Kd.R_alloc | apply Kd.R_drewN | apply Kd.R_drew)); exact (Kd.R_mono (Kd.R_far (p := ⟨gb260, 2, none⟩) (Kd.R_far (p := ⟨gb260, 1, none⟩) (Kd.R_far (p := ⟨gb260, 0, none⟩) (Kd.R_types HO241.out BK260.out (by decide)) (fun _ hk => hk.2) (.int .i64 t253)) (fun _ hk => hk.2) (.slice Ao41 t254.length co41)) (fun _ hk => hk.2) (.int .i64 t257)) (fun _ h_ => h_.1))) (Kd.R_base ho0) hb); have n2_ := Aside0.mk (Kd.V_elder' (by (with_reducible repeat (first | apply Kd.V_alloc | apply Kd.V_drewN | apply Kd.V_drew)); exact (Kd.V_mono (Kd.V_far (p := ⟨gb260, 2, none⟩) (Kd.V_far (p := ⟨gb260, 1, none⟩) (Kd.V_far (p := ⟨gb260, 0, none⟩) (Kd.V_mono HO248.out (fun k_ hk => (⟨hk, hk.2⟩ : _ ∧ k_ ≠ gb260))) (fun _ hk => hk.2) (.int .i64 t253)) (fun _ hk => hk.2) (.slice Ao41 t254.length co41)) (fun _ hk => hk.2) (.int .i64 t257)) (fun _ h_ => h_.1))) (Kd.R_base ho0) hb); have n3_ := Aside0.mk (Kd.V_elder' (by (with_reducible repeat (first | apply Kd.V_alloc | apply Kd.V_drewN | apply Kd.V_drew)); exact (Kd.V_mono (Kd.V_far (p := ⟨gb260, 2, none⟩) (Kd.V_far (p := ⟨gb260, 1, none⟩) (Kd.V_far (p := ⟨gb260, 0, none⟩) (Kd.V_mono HO256.out (fun k_ hk => (⟨hk, hk.2⟩ : _ ∧ k_ ≠ gb260))) (fun _ hk => hk.2) (.int .i64 t253)) (fun _ hk => hk.2) (.slice Ao41 t254.length co41)) (fun _ hk => hk.2) (.int .i64 t257)) (fun _ h_ => h_.1))) (Kd.R_base ho0) hb); have n4_ := Aside0.mk (Kd.R_lower (Kd.R_new' (Kd.R_new' ho0 (Kd.R_lt (by (with_reducible repeat (first | apply Kd.R_alloc | apply Kd.R_drewN | apply Kd.R_drew)); exact (Kd.R_mono (Kd.R_far (p := ⟨gb260, 2, none⟩) (Kd.R_far (p := ⟨gb260, 1, none⟩) (Kd.R_far (p := ⟨gb260, 0, none⟩) (Kd.R_types HO236.out BK260.out (by decide)) (fun _ hk => hk.2) (.int .i64 t253)) (fun _ hk => hk.2) (.slice Ao41 t254.length co41)) (fun _ hk => hk.2) (.int .i64 t257)) (fun _ h_ => h_.1))))) (Kd.R_lt (by (with_reducible repeat (first | apply Kd.R_alloc | apply Kd.R_drewN | apply Kd.R_drew)); exact (Kd.R_mono (Kd.R_far (p := ⟨gb260, 2, none⟩) (Kd.R_far (p := ⟨gb260, 1, none⟩) (Kd.R_far (p := ⟨gb260, 0, none⟩) (Kd.R_types HO241.out BK260.out (by decide)) (fun _ hk => hk.2) (.int .i64 t253)) (fun _ hk => hk.2) (.slice Ao41 t254.length co41)) (fun _ hk => hk.2) (.int .i64 t257)) (fun _ h_ => h_.1))))) (below_size (by repeat (first | (with_reducible first | exact HB.out | apply below_alloc | apply pw_below_drewN | apply below_drew1 | refine below_set ?_ GE232.out | refine below_set ?_ GE244.out | refine below_set ?_ GE252.out | refine below_set ?_ GE260.out) | exact HB.out)))); have n5_ := Aside0.mk (blk_below (g := gb232) (o := .cells #[.int .i64 t233, .slice Ao17 t234.length co17, .int .i64 t237] 35 (0, 0)) (by (with_reducible repeat (first | refine blk_drewN ?_ _ | refine blk_drew ?_ | refine blk_alloc ?_ _)); refine blk_far ?_ NB232_260.out _; (with_reducible repeat (first | refine blk_drewN ?_ _ | refine blk_drew ?_ | refine blk_alloc ?_ _)); refine blk_far ?_ NB232_260.out _; (with_reducible repeat (first | refine blk_drewN ?_ _ | refine blk_drew ?_ | refine blk_alloc ?_ _)); refine blk_far ?_ NB232_260.out _; (with_reducible repeat (first | refine blk_drewN ?_ _ | refine blk_drew ?_ | refine blk_alloc ?_ _)); exact BK232.out) hb); have n6_ := Aside0.mk (blk_below (g := gb244) (o := .cells #[.int .i64 t238, .slice Ao24 t239.length co24, .int .i64 t242] 35 (0, 0)) (by (with_reducible repeat (first | refine blk_drewN ?_ _ | refine blk_drew ?_ | refine blk_alloc ?_ _)); refine blk_far ?_ NB244_260.out _; (with_reducible repeat (first | refine blk_drewN ?_ _ | refine blk_drew ?_ | refine blk_alloc ?_ _)); refine blk_far ?_ NB244_260.out _; (with_reducible repeat (first | refine blk_drewN ?_ _ | refine blk_drew ?_ | refine blk_alloc ?_ _)); refine blk_far ?_ NB244_260.out _; (with_reducible repeat (first | refine blk_drewN ?_ _ | refine blk_drew ?_ | refine blk_alloc ?_ _)); exact BK244.out) hb); have n7_ := Aside0.mk (blk_below (g := gb252) (o := .cells #[.int .i64 t245, .slice Ao32 t246.length co32, .int .i64 t249] 35 (0, 0)) (by (with_reducible repeat (first | refine blk_drewN ?_ _ | refine blk_drew ?_ | refine blk_alloc ?_ _)); refine blk_far ?_ NB252_260.out _; (with_reducible repeat (first | refine blk_drewN ?_ _ | refine blk_drew ?_ | refine blk_alloc ?_ _)); refine blk_far ?_ NB252_260.out _; (with_reducible repeat (first | refine blk_drewN ?_ _ | refine blk_drew ?_ | refine blk_alloc ?_ _)); refine blk_far ?_ NB252_260.out _; (with_reducible repeat (first | refine blk_drewN ?_ _ | refine blk_drew ?_ | refine blk_alloc ?_ _)); exact BK252.out) hb); have n8_ := Aside0.mk (blk_below (g := gb260) (o := .cells #[.int .i64 t253, .slice Ao41 t254.length co41, .int .i64 t257] 35 (0, 0)) (by (with_reducible repeat (first | refine blk_drewN ?_ _ | refine blk_drew ?_ | refine blk_alloc ?_ _)); refine blk_put (cs := #[.int .i64 t253, .slice Ao41 t254.length co41, .int .i64 0]) ?_ 2 _ rfl; (with_reducible repeat (first | refine blk_drewN ?_ _ | refine blk_drew ?_ | refine blk_alloc ?_ _)); refine blk_put (cs := #[.int .i64 t253, .slice none 0 0, .int .i64 0]) ?_ 1 _ rfl; (with_reducible repeat (first | refine blk_drewN ?_ _ | refine blk_drew ?_ | refine blk_alloc ?_ _)); refine blk_put (cs := #[.int .i64 0, .slice none 0 0, .int .i64 0]) ?_ 0 _ rfl; (with_reducible repeat (first | refine blk_drewN ?_ _ | refine blk_drew ?_ | refine blk_alloc ?_ _)); exact BK260.out) hb); have n9_ := Aside0.mk (below_step (by repeat (first | (with_reducible first | exact HB.out | apply below_alloc | apply pw_below_drewN | apply below_drew1 | refine below_set ?_ GE232.out | refine below_set ?_ GE244.out | refine below_set ?_ GE252.out | refine below_set ?_ GE260.out) | exact HB.out)) hb); clear HO236; clear HO241; clear HO248; clear HO256; clear BK232; clear BK244; clear BK252; clear BK260; clear HB; have HO236 := n0_; have HO241 := n1_; have HO248 := n2_; have HO256 := n3_; have HO264 := n4_; have BK232 := n5_; have BK244 := n6_; have BK252 := n7_; have BK260 := n8_; have HB := n9_; clear n0_ n1_ n2_ n3_ n4_ n5_ n6_ n7_ n8_ n9_; (try clear hb); (try clear hb2); (try clear hk); (try clear hi); (try clear ho0)) | ((with_reducible refine gate_dst (N := 15) rfl ?_); refine box_event ?hg (N := 15) ?hd (cs := #[.int .i64 0, .slice none 0 0, .int .i64 0]) (t := 35) ?hr ?_; (case hd => rfl); (case hg => rfl); (case hr => first | (go_simp; done) | (go_simp; rfl)); intro gb268 hg w44 hbox hb; have n0_ := Aside0.mk (Kd.R_below (by (with_reducible repeat (first | apply Kd.R_alloc | apply Kd.R_drewN | apply Kd.R_drew)); exact HO236.out) hb); have n1_ := Aside0.mk (Kd.R_below (by (with_reducible repeat (first | apply Kd.R_alloc | apply Kd.R_drewN | apply Kd.R_drew)); exact HO241.out) hb); have n2_ := Aside0.mk (Kd.V_below (Kd.V_elderB (by (with_reducible repeat (first | apply Kd.V_alloc | apply Kd.V_drewN | apply Kd.V_drew)); exact HO248.out) gb268 (Nat.le_of_eq hg.symm)) hb); have n3_ := Aside0.mk (Kd.V_below (Kd.V_elderB (by (with_reducible repeat (first | apply Kd.V_alloc | apply Kd.V_drewN | apply Kd.V_drew)); exact HO256.out) gb268 (Nat.le_of_eq hg.symm)) hb); have n4_ := Aside0.mk (Kd.R_below (by (with_reducible repeat (first | apply Kd.R_alloc | apply Kd.R_drewN | apply Kd.R_drew)); exact HO264.out) hb); have n5_ := Aside0.mk (blk_below (g := gb232) (o := .cells #[.int .i64 t233, .slice Ao17 t234.length co17, .int .i64 t237] 35 (0, 0)) (by (with_reducible repeat (first | refine blk_drewN ?_ _ | refine blk_drew ?_ | refine blk_alloc ?_ _)); exact BK232.out) hb); have n6_ := Aside0.mk (blk_below (g := gb244) (o := .cells #[.int .i64 t238, .slice Ao24 t239.length co24, .int .i64 t242] 35 (0, 0)) (by (with_reducible repeat (first | refine blk_drewN ?_ _ | refine blk_drew ?_ | refine blk_alloc ?_ _)); exact BK244.out) hb); have n7_ := Aside0.mk (blk_below (g := gb252) (o := .cells #[.int .i64 t245, .slice Ao32 t246.length co32, .int .i64 t249] 35 (0, 0)) (by (with_reducible repeat (first | refine blk_drewN ?_ _ | refine blk_drew ?_ | refine blk_alloc ?_ _)); exact BK252.out) hb); have n8_ := Aside0.mk (blk_below (g := gb260) (o := .cells #[.int .i64 t253, .slice Ao41 t254.length co41, .int .i64 t257] 35 (0, 0)) (by (with_reducible repeat (first | refine blk_drewN ?_ _ | refine blk_drew ?_ | refine blk_alloc ?_ _)); exact BK260.out) hb); have n9_ := Aside0.mk (below_step (by repeat (first | (with_reducible first | exact HB.out | apply below_alloc | apply pw_below_drewN | apply below_drew1 | refine below_set ?_ GE232.out | refine below_set ?_ GE244.out | refine below_set ?_ GE252.out | refine below_set ?_ GE260.out) | exact HB.out)) hb); have n10_ := Aside0.mk (hbox); have n11_ := Aside0.mk ((by rw [hg]; exact (below_size (by repeat (first | (with_reducible first | exact HB.out | apply below_alloc | apply pw_below_drewN | apply below_drew1 | refine below_set ?_ GE232.out | refine below_set ?_ GE244.out | refine below_set ?_ GE252.out | refine below_set ?_ GE260.out) | exact HB.out))) : w.heap.size ≤ gb268)); have n12_ := Aside0.mk ((by rw [hg]; exact (below_size (by repeat (first | (with_reducible first | exact HB.out | apply below_alloc | apply pw_below_drewN | apply below_drew1 | refine below_set ?_ GE232.out | refine below_set ?_ GE244.out | refine below_set ?_ GE252.out | refine below_set ?_ GE260.out) | exact HB.out))) : w.heap.size ≤ gb268)); have n13_ := Aside0.mk ((by rw [hg]; exact Nat.ne_of_lt (blk_lt (g := gb232) (o := .cells #[.int .i64 t233, .slice Ao17 t234.length co17, .int .i64 t237] 35 (0, 0)) (by (with_reducible repeat (first | refine blk_drewN ?_ _ | refine blk_drew ?_ | refine blk_alloc ?_ _)); exact BK232.out)) : gb232 ≠ gb268)); have n14_ := Aside0.mk ((by rw [hg]; exact Nat.ne_of_gt (blk_lt (g := gb232) (o := .cells #[.int .i64 t233, .slice Ao17 t234.length co17, .int .i64 t237] 35 (0, 0)) (by (with_reducible repeat (first | refine blk_drewN ?_ _ | refine blk_drew ?_ | refine blk_alloc ?_ _)); exact BK232.out)) : gb268 ≠ gb232)); have n15_ := Aside0.mk ((by rw [hg]; exact Nat.ne_of_lt (blk_lt (g := gb244) (o := .cells #[.int .i64 t238, .slice Ao24 t239.length co24, .int .i64 t242] 35 (0, 0)) (by (with_reducible repeat (first | refine blk_drewN ?_ _ | refine blk_drew ?_ | refine blk_alloc ?_ _)); exact BK244.out)) : gb244 ≠ gb268)); have n16_ := Aside0.mk ((by rw [hg]; exact Nat.ne_of_gt (blk_lt (g := gb244) (o := .cells #[.int .i64 t238, .slice Ao24 t239.length co24, .int .i64 t242] 35 (0, 0)) (by (with_reducible repeat (first | refine blk_drewN ?_ _ | refine blk_drew ?_ | refine blk_alloc ?_ _)); exact BK244.out)) : gb268 ≠ gb244)); have n17_ := Aside0.mk ((by rw [hg]; exact Nat.ne_of_lt (blk_lt (g := gb252) (o := .cells #[.int .i64 t245, .slice Ao32 t246.length co32, .int .i64 t249] 35 (0, 0)) (by (with_reducible repeat (first | refine blk_drewN ?_ _ | refine blk_drew ?_ | refine blk_alloc ?_ _)); exact BK252.out)) : gb252 ≠ gb268)); have n18_ := Aside0.mk ((by rw [hg]; exact Nat.ne_of_gt (blk_lt (g := gb252) (o := .cells #[.int .i64 t245, .slice Ao32 t246.length co32, .int .i64 t249] 35 (0, 0)) (by (with_reducible repeat (first | refine blk_drewN ?_ _ | refine blk_drew ?_ | refine blk_alloc ?_ _)); exact BK252.out)) : gb268 ≠ gb252)); have n19_ := Aside0.mk ((by rw [hg]; exact Nat.ne_of_lt (blk_lt (g := gb260) (o := .cells #[.int .i64 t253, .slice Ao41 t254.length co41, .int .i64 t257] 35 (0, 0)) (by (with_reducible repeat (first | refine blk_drewN ?_ _ | refine blk_drew ?_ | refine blk_alloc ?_ _)); exact BK260.out)) : gb260 ≠ gb268)); have n20_ := Aside0.mk ((by rw [hg]; exact Nat.ne_of_gt (blk_lt (g := gb260) (o := .cells #[.int .i64 t253, .slice Ao41 t254.length co41, .int .i64 t257] 35 (0, 0)) (by (with_reducible repeat (first | refine blk_drewN ?_ _ | refine blk_drew ?_ | refine blk_alloc ?_ _)); exact BK260.out)) : gb268 ≠ gb260)); clear HO236; clear HO241; clear HO248; clear HO256; clear HO264; clear BK232; clear BK244; clear BK252; clear BK260; clear HB; have HO236 := n0_; have HO241 := n1_; have HO248 := n2_; have HO256 := n3_; have HO264 := n4_; have BK232 := n5_; have BK244 := n6_; have BK252 := n7_; have BK260 := n8_; have HB := n9_; have BK268 := n10_; have GW268 := n11_; have GE268 := n12_; have NB232_268 := n13_; have NB268_232 := n14_; have NB244_268 := n15_; have NB268_244 := n16_; have NB252_268 := n17_; have NB268_252 := n18_; have NB260_268 := n19_; have NB268_260 := n20_; clear n0_ n1_ n2_ n3_ n4_ n5_ n6_ n7_ n8_ n9_ n10_ n11_ n12_ n13_ n14_ n15_ n16_ n17_ n18_ n19_ n20_; clear hb hbox hg; have hnb45 := NB268_232.out; have hnc45 := NB232_268.out; have hnb46 := NB268_244.out; have hnc46 := NB244_268.out; have hnb47 := NB268_252.out; have hnc47 := NB252_268.out; have hnb48 := NB268_260.out; have hnc48 := NB260_268.out; have hcz49_0 : w44.cell? ⟨gb268, 0, none⟩ = some (.int .i64 0) := (blk_cell BK268.out 0).trans rfl; have hcz49_1 : w44.cell? ⟨gb268, 1, none⟩ = some (.slice none 0 0) := (blk_cell BK268.out 1).trans rfl; have hcz49_2 : w44.cell? ⟨gb268, 2, none⟩ = some (.int .i64 0) := (blk_cell BK268.out 2).trans rfl; have hfz49_0 := blk_frozen BK268.out 0; have hfz49_1 := blk_frozen BK268.out 1; have hfz49_2 := blk_frozen BK268.out 2; obtain ⟨Ao50, co50, eo50⟩ := Kd.R_slice HO264.out; subst eo50) | ((with_reducible refine gate_dst (N := 18) rfl ?_); refine box_event ?hg (N := 18) ?hd (cs := #[.int .i64 0, .slice none 0 0, .int .i64 0]) (t := 35) ?hr ?_; (case hd => rfl); (case hg => rfl); (case hr => first | (go_simp; done) | (go_simp; rfl)); intro gb269 hg w51 hbox hb; have n0_ := Aside0.mk (Kd.R_below (by (with_reducible repeat (first | apply Kd.R_alloc | apply Kd.R_drewN | apply Kd.R_drew)); exact (Kd.R_mono (Kd.R_far (p := ⟨gb268, 2, none⟩) (Kd.R_far (p := ⟨gb268, 1, none⟩) (Kd.R_far (p := ⟨gb268, 0, none⟩) (Kd.R_types HO236.out BK268.out (by decide)) (fun _ hk => hk.2) (.int .i64 t261)) (fun _ hk => hk.2) (.slice Ao50 t262.length co50)) (fun _ hk => hk.2) (.int .i64 t265)) (fun _ h_ => h_.1))) hb); have n1_ := Aside0.mk (Kd.R_below (by (with_reducible repeat (first | apply Kd.R_alloc | apply Kd.R_drewN | apply Kd.R_drew)); exact (Kd.R_mono (Kd.R_far (p := ⟨gb268, 2, none⟩) (Kd.R_far (p := ⟨gb268, 1, none⟩) (Kd.R_far (p := ⟨gb268, 0, none⟩) (Kd.R_types HO241.out BK268.out (by decide)) (fun _ hk => hk.2) (.int .i64 t261)) (fun _ hk => hk.2) (.slice Ao50 t262.length co50)) (fun _ hk => hk.2) (.int .i64 t265)) (fun _ h_ => h_.1))) hb); have n2_ := Aside0.mk (Kd.V_below (Kd.V_elderB (by (with_reducible repeat (first | apply Kd.V_alloc | apply Kd.V_drewN | apply Kd.V_drew)); exact (Kd.V_mono (Kd.V_far (p := ⟨gb268, 2, none⟩) (Kd.V_far (p := ⟨gb268, 1, none⟩) (Kd.V_far (p := ⟨gb268, 0, none⟩) (Kd.V_mono HO248.out (fun k_ hk => (⟨hk, hk.2⟩ : _ ∧ k_ ≠ gb268))) (fun _ hk => hk.2) (.int .i64 t261)) (fun _ hk => hk.2) (.slice Ao50 t262.length co50)) (fun _ hk => hk.2) (.int .i64 t265)) (fun _ h_ => h_.1))) gb269 (Nat.le_of_eq hg.symm)) hb); have n3_ := Aside0.mk (Kd.V_below (Kd.V_elderB (by (with_reducible repeat (first | apply Kd.V_alloc | apply Kd.V_drewN | apply Kd.V_drew)); exact (Kd.V_mono (Kd.V_far (p := ⟨gb268, 2, none⟩) (Kd.V_far (p := ⟨gb268, 1, none⟩) (Kd.V_far (p := ⟨gb268, 0, none⟩) (Kd.V_mono HO256.out (fun k_ hk => (⟨hk, hk.2⟩ : _ ∧ k_ ≠ gb268))) (fun _ hk => hk.2) (.int .i64 t261)) (fun _ hk => hk.2) (.slice Ao50 t262.length co50)) (fun _ hk => hk.2) (.int .i64 t265)) (fun _ h_ => h_.1))) gb269 (Nat.le_of_eq hg.symm)) hb); have n4_ := Aside0.mk (Kd.R_below (by (with_reducible repeat (first | apply Kd.R_alloc | apply Kd.R_drewN | apply Kd.R_drew)); exact (Kd.R_mono (Kd.R_far (p := ⟨gb268, 2, none⟩) (Kd.R_far (p := ⟨gb268, 1, none⟩) (Kd.R_far (p := ⟨gb268, 0, none⟩) (Kd.R_types HO264.out BK268.out (by decide)) (fun _ hk => hk.2) (.int .i64 t261)) (fun _ hk => hk.2) (.slice Ao50 t262.length co50)) (fun _ hk => hk.2) (.int .i64 t265)) (fun _ h_ => h_.1))) hb); have n5_ := Aside0.mk (blk_below (g := gb232) (o := .cells #[.int .i64 t233, .slice Ao17 t234.length co17, .int .i64 t237] 35 (0, 0)) (by (with_reducible repeat (first | refine blk_drewN ?_ _ | refine blk_drew ?_ | refine blk_alloc ?_ _)); refine blk_far ?_ NB232_268.out _; (with_reducible repeat (first | refine blk_drewN ?_ _ | refine blk_drew ?_ | refine blk_alloc ?_ _)); refine blk_far ?_ NB232_268.out _; (with_reducible repeat (first | refine blk_drewN ?_ _ | refine blk_drew ?_ | refine blk_alloc ?_ _)); refine blk_far ?_ NB232_268.out _; (with_reducible repeat (first | refine blk_drewN ?_ _ | refine blk_drew ?_ | refine blk_alloc ?_ _)); exact BK232.out) hb); have n6_ := Aside0.mk (blk_below (g := gb244) (o := .cells #[.int .i64 t238, .slice Ao24 t239.length co24, .int .i64 t242] 35 (0, 0)) (by (with_reducible repeat (first | refine blk_drewN ?_ _ | refine blk_drew ?_ | refine blk_alloc ?_ _)); refine blk_far ?_ NB244_268.out _; (with_reducible repeat (first | refine blk_drewN ?_ _ | refine blk_drew ?_ | refine blk_alloc ?_ _)); refine blk_far ?_ NB244_268.out _; (with_reducible repeat (first | refine blk_drewN ?_ _ | refine blk_drew ?_ | refine blk_alloc ?_ _)); refine blk_far ?_ NB244_268.out _; (with_reducible repeat (first | refine blk_drewN ?_ _ | refine blk_drew ?_ | refine blk_alloc ?_ _)); exact BK244.out) hb); have n7_ := Aside0.mk (blk_below (g := gb252) (o := .cells #[.int .i64 t245, .slice Ao32 t246.length co32, .int .i64 t249] 35 (0, 0)) (by (with_reducible repeat (first | refine blk_drewN ?_ _ | refine blk_drew ?_ | refine blk_alloc ?_ _)); refine blk_far ?_ NB252_268.out _; (with_reducible repeat (first | refine blk_drewN ?_ _ | refine blk_drew ?_ | refine blk_alloc ?_ _)); refine blk_far ?_ NB252_268.out _; (with_reducible repeat (first | refine blk_drewN ?_ _ | refine blk_drew ?_ | refine blk_alloc ?_ _)); refine blk_far ?_ NB252_268.out _; (with_reducible repeat (first | refine blk_drewN ?_ _ | refine blk_drew ?_ | refine blk_alloc ?_ _)); exact BK252.out) hb); have n8_ := Aside0.mk (blk_below (g := gb260) (o := .cells #[.int .i64 t253, .slice Ao41 t254.length co41, .int .i64 t257] 35 (0, 0)) (by (with_reducible repeat (first | refine blk_drewN ?_ _ | refine blk_drew ?_ | refine blk_alloc ?_ _)); refine blk_far ?_ NB260_268.out _; (with_reducible repeat (first | refine blk_drewN ?_ _ | refine blk_drew ?_ | refine blk_alloc ?_ _)); refine blk_far ?_ NB260_268.out _; (with_reducible repeat (first | refine blk_drewN ?_ _ | refine blk_drew ?_ | refine blk_alloc ?_ _)); refine blk_far ?_ NB260_268.out _; (with_reducible repeat (first | refine blk_drewN ?_ _ | refine blk_drew ?_ | refine blk_alloc ?_ _)); exact BK260.out) hb); have n9_ := Aside0.mk (blk_below (g := gb268) (o := .cells #[.int .i64 t261, .slice Ao50 t262.length co50, .int .i64 t265] 35 (0, 0)) (by (with_reducible repeat (first | refine blk_drewN ?_ _ | refine blk_drew ?_ | refine blk_alloc ?_ _)); refine blk_put (cs := #[.int .i64 t261, .slice Ao50 t262.length co50, .int .i64 0]) ?_ 2 _ rfl; (with_reducible repeat (first | refine blk_drewN ?_ _ | refine blk_drew ?_ | refine blk_alloc ?_ _)); refine blk_put (cs := #[.int .i64 t261, .slice none 0 0, .int .i64 0]) ?_ 1 _ rfl; (with_reducible repeat (first | refine blk_drewN ?_ _ | refine blk_drew ?_ | refine blk_alloc ?_ _)); refine blk_put (cs := #[.int .i64 0, .slice none 0 0, .int .i64 0]) ?_ 0 _ rfl; (with_reducible repeat (first | refine blk_drewN ?_ _ | refine blk_drew ?_ | refine blk_alloc ?_ _)); exact BK268.out) hb); have n10_ := Aside0.mk (below_step (by repeat (first | (with_reducible first | exact HB.out | apply below_alloc | apply pw_below_drewN | apply below_drew1 | refine below_set ?_ GE232.out | refine below_set ?_ GE244.out | refine below_set ?_ GE252.out | refine below_set ?_ GE260.out | refine below_set ?_ GE268.out) | exact HB.out)) hb); have n11_ := Aside0.mk (hbox); have n12_ := Aside0.mk ((by rw [hg]; exact (below_size (by repeat (first | (with_reducible first | exact HB.out | apply below_alloc | apply pw_below_drewN | apply below_drew1 | refine below_set ?_ GE232.out | refine below_set ?_ GE244.out | refine below_set ?_ GE252.out | refine below_set ?_ GE260.out | refine below_set ?_ GE268.out) | exact HB.out))) : w.heap.size ≤ gb269)); have n13_ := Aside0.mk ((by rw [hg]; exact (below_size (by repeat (first | (with_reducible first | exact HB.out | apply below_alloc | apply pw_below_drewN | apply below_drew1 | refine below_set ?_ GE232.out | refine below_set ?_ GE244.out | refine below_set ?_ GE252.out | refine below_set ?_ GE260.out | refine below_set ?_ GE268.out) | exact HB.out))) : w.heap.size ≤ gb269)); have n14_ := Aside0.mk ((by rw [hg]; exact Nat.ne_of_lt (blk_lt (g := gb232) (o := .cells #[.int .i64 t233, .slice Ao17 t234.length co17, .int .i64 t237] 35 (0, 0)) (by (with_reducible repeat (first | refine blk_drewN ?_ _ | refine blk_drew ?_ | refine blk_alloc ?_ _)); refine blk_far ?_ NB232_268.out _; (with_reducible repeat (first | refine blk_drewN ?_ _ | refine blk_drew ?_ | refine blk_alloc ?_ _)); refine blk_far ?_ NB232_268.out _; (with_reducible repeat (first | refine blk_drewN ?_ _ | refine blk_drew ?_ | refine blk_alloc ?_ _)); refine blk_far ?_ NB232_268.out _; (with_reducible repeat (first | refine blk_drewN ?_ _ | refine blk_drew ?_ | refine blk_alloc ?_ _)); exact BK232.out)) : gb232 ≠ gb269)); have n15_ := Aside0.mk ((by rw [hg]; exact Nat.ne_of_gt (blk_lt (g := gb232) (o := .cells #[.int .i64 t233, .slice Ao17 t234.length co17, .int .i64 t237] 35 (0, 0)) (by (with_reducible repeat (first | refine blk_drewN ?_ _ | refine blk_drew ?_ | refine blk_alloc ?_ _)); refine blk_far ?_ NB232_268.out _; (with_reducible repeat (first | refine blk_drewN ?_ _ | refine blk_drew ?_ | refine blk_alloc ?_ _)); refine blk_far ?_ NB232_268.out _; (with_reducible repeat (first | refine blk_drewN ?_ _ | refine blk_drew ?_ | refine blk_alloc ?_ _)); refine blk_far ?_ NB232_268.out _; (with_reducible repeat (first | refine blk_drewN ?_ _ | refine blk_drew ?_ | refine blk_alloc ?_ _)); exact BK232.out)) : gb269 ≠ gb232)); have n16_ := Aside0.mk ((by rw [hg]; exact Nat.ne_of_lt (blk_lt (g := gb244) (o := .cells #[.int .i64 t238, .slice Ao24 t239.length co24, .int .i64 t242] 35 (0, 0)) (by (with_reducible repeat (first | refine blk_drewN ?_ _ | refine blk_drew ?_ | refine blk_alloc ?_ _)); refine blk_far ?_ NB244_268.out _; (with_reducible repeat (first | refine blk_drewN ?_ _ | refine blk_drew ?_ | refine blk_alloc ?_ _)); refine blk_far ?_ NB244_268.out _; (with_reducible repeat (first | refine blk_drewN ?_ _ | refine blk_drew ?_ | refine blk_alloc ?_ _)); refine blk_far ?_ NB244_268.out _; (with_reducible repeat (first | refine blk_drewN ?_ _ | refine blk_drew ?_ | refine blk_alloc ?_ _)); exact BK244.out)) : gb244 ≠ gb269)); have n17_ := Aside0.mk ((by rw [hg]; exact Nat.ne_of_gt (blk_lt (g := gb244) (o := .cells #[.int .i64 t238, .slice Ao24 t239.length co24, .int .i64 t242] 35 (0, 0)) (by (with_reducible repeat (first | refine blk_drewN ?_ _ | refine blk_drew ?_ | refine blk_alloc ?_ _)); refine blk_far ?_ NB244_268.out _; (with_reducible repeat (first | refine blk_drewN ?_ _ | refine blk_drew ?_ | refine blk_alloc ?_ _)); refine blk_far ?_ NB244_268.out _; (with_reducible repeat (first | refine blk_drewN ?_ _ | refine blk_drew ?_ | refine blk_alloc ?_ _)); refine blk_far ?_ NB244_268.out _; (with_reducible repeat (first | refine blk_drewN ?_ _ | refine blk_drew ?_ | refine blk_alloc ?_ _)); exact BK244.out)) : gb269 ≠ gb244)); have n18_ := Aside0.mk ((by rw [hg]; exact Nat.ne_of_lt (blk_lt (g := gb252) (o := .cells #[.int .i64 t245, .slice Ao32 t246.length co32, .int .i64 t249] 35 (0, 0)) (by (with_reducible repeat (first | refine blk_drewN ?_ _ | refine blk_drew ?_ | refine blk_alloc ?_ _)); refine blk_far ?_ NB252_268.out _; (with_reducible repeat (first | refine blk_drewN ?_ _ | refine blk_drew ?_ | refine blk_alloc ?_ _)); refine blk_far ?_ NB252_268.out _; (with_reducible repeat (first | refine blk_drewN ?_ _ | refine blk_drew ?_ | refine blk_alloc ?_ _)); refine blk_far ?_ NB252_268.out _; (with_reducible repeat (first | refine blk_drewN ?_ _ | refine blk_drew ?_ | refine blk_alloc ?_ _)); exact BK252.out)) : gb252 ≠ gb269)); have n19_ := Aside0.mk ((by rw [hg]; exact Nat.ne_of_gt (blk_lt (g := gb252) (o := .cells #[.int .i64 t245, .slice Ao32 t246.length co32, .int .i64 t249] 35 (0, 0)) (by (with_reducible repeat (first | refine blk_drewN ?_ _ | refine blk_drew ?_ | refine blk_alloc ?_ _)); refine blk_far ?_ NB252_268.out _; (with_reducible repeat (first | refine blk_drewN ?_ _ | refine blk_drew ?_ | refine blk_alloc ?_ _)); refine blk_far ?_ NB252_268.out _; (with_reducible repeat (first | refine blk_drewN ?_ _ | refine blk_drew ?_ | refine blk_alloc ?_ _)); refine blk_far ?_ NB252_268.out _; (with_reducible repeat (first | refine blk_drewN ?_ _ | refine blk_drew ?_ | refine blk_alloc ?_ _)); exact BK252.out)) : gb269 ≠ gb252)); have n20_ := Aside0.mk ((by rw [hg]; exact Nat.ne_of_lt (blk_lt (g := gb260) (o := .cells #[.int .i64 t253, .slice Ao41 t254.length co41, .int .i64 t257] 35 (0, 0)) (by (with_reducible repeat (first | refine blk_drewN ?_ _ | refine blk_drew ?_ | refine blk_alloc ?_ _)); refine blk_far ?_ NB260_268.out _; (with_reducible repeat (first | refine blk_drewN ?_ _ | refine blk_drew ?_ | refine blk_alloc ?_ _)); refine blk_far ?_ NB260_268.out _; (with_reducible repeat (first | refine blk_drewN ?_ _ | refine blk_drew ?_ | refine blk_alloc ?_ _)); refine blk_far ?_ NB260_268.out _; (with_reducible repeat (first | refine blk_drewN ?_ _ | refine blk_drew ?_ | refine blk_alloc ?_ _)); exact BK260.out)) : gb260 ≠ gb269)); have n21_ := Aside0.mk ((by rw [hg]; exact Nat.ne_of_gt (blk_lt (g := gb260) (o := .cells #[.int .i64 t253, .slice Ao41 t254.length co41, .int .i64 t257] 35 (0, 0)) (by (with_reducible repeat (first | refine blk_drewN ?_ _ | refine blk_drew ?_ | refine blk_alloc ?_ _)); refine blk_far ?_ NB260_268.out _; (with_reducible repeat (first | refine blk_drewN ?_ _ | refine blk_drew ?_ | refine blk_alloc ?_ _)); refine blk_far ?_ NB260_268.out _; (with_reducible repeat (first | refine blk_drewN ?_ _ | refine blk_drew ?_ | refine blk_alloc ?_ _)); refine blk_far ?_ NB260_268.out _; (with_reducible repeat (first | refine blk_drewN ?_ _ | refine blk_drew ?_ | refine blk_alloc ?_ _)); exact BK260.out)) : gb269 ≠ gb260)); have n22_ := Aside0.mk ((by rw [hg]; exact Nat.ne_of_lt (blk_lt (g := gb268) (o := .cells #[.int .i64 t261, .slice Ao50 t262.length co50, .int .i64 t265] 35 (0, 0)) (by (with_reducible repeat (first | refine blk_drewN ?_ _ | refine blk_drew ?_ | refine blk_alloc ?_ _)); refine blk_put (cs := #[.int .i64 t261, .slice Ao50 t262.length co50, .int .i64 0]) ?_ 2 _ rfl; (with_reducible repeat (first | refine blk_drewN ?_ _ | refine blk_drew ?_ | refine blk_alloc ?_ _)); refine blk_put (cs := #[.int .i64 t261, .slice none 0 0, .int .i64 0]) ?_ 1 _ rfl; (with_reducible repeat (first | refine blk_drewN ?_ _ | refine blk_drew ?_ | refine blk_alloc ?_ _)); refine blk_put (cs := #[.int .i64 0, .slice none 0 0, .int .i64 0]) ?_ 0 _ rfl; (with_reducible repeat (first | refine blk_drewN ?_ _ | refine blk_drew ?_ | refine blk_alloc ?_ _)); exact BK268.out)) : gb268 ≠ gb269)); have n23_ := Aside0.mk ((by rw [hg]; exact Nat.ne_of_gt (blk_lt (g := gb268) (o := .cells #[.int .i64 t261, .slice Ao50 t262.length co50, .int .i64 t265] 35 (0, 0)) (by (with_reducible repeat (first | refine blk_drewN ?_ _ | refine blk_drew ?_ | refine blk_alloc ?_ _)); refine blk_put (cs := #[.int .i64 t261, .slice Ao50 t262.length co50, .int .i64 0]) ?_ 2 _ rfl; (with_reducible repeat (first | refine blk_drewN ?_ _ | refine blk_drew ?_ | refine blk_alloc ?_ _)); refine blk_put (cs := #[.int .i64 t261, .slice none 0 0, .int .i64 0]) ?_ 1 _ rfl; (with_reducible repeat (first | refine blk_drewN ?_ _ | refine blk_drew ?_ | refine blk_alloc ?_ _)); refine blk_put (cs := #[.int .i64 0, .slice none 0 0, .int .i64 0]) ?_ 0 _ rfl; (with_reducible repeat (first | refine blk_drewN ?_ _ | refine blk_drew ?_ | refine blk_alloc ?_ _)); exact BK268.out)) : gb269 ≠ gb268)); clear HO236; clear HO241; clear HO248; clear HO256; clear HO264; clear BK232; clear BK244; clear BK252; clear BK260; clear BK268; clear HB; have HO236 := n0_; have HO241 := n1_; have HO248 := n2_; have HO256 := n3_; have HO264 := n4_; have BK232 := n5_; have BK244 := n6_; have BK252 := n7_; have BK260 := n8_; have BK268 := n9_; have HB := n10_; have BK269 := n11_; have GW269 := n12_; have GE269 := n13_; have NB232_269 := n14_; have NB269_232 := n15_; have NB244_269 := n16_; have NB269_244 := n17_; have NB252_269 := n18_; have NB269_252 := n19_; have NB260_269 := n20_; have NB269_260 := n21_; have NB268_269 := n22_; have NB269_268 := n23_; clear n0_ n1_ n2_ n3_ n4_ n5_ n6_ n7_ n8_ n9_ n10_ n11_ n12_ n13_ n14_ n15_ n16_ n17_ n18_ n19_ n20_ n21_ n22_ n23_; clear hb hbox hg; have hnb52 := NB269_232.out; have hnc52 := NB232_269.out; have hnb53 := NB269_244.out; have hnc53 := NB244_269.out; have hnb54 := NB269_252.out; have hnc54 := NB252_269.out; have hnb55 := NB269_260.out; have hnc55 := NB260_269.out; have hnb56 := NB269_268.out; have hnc56 := NB268_269.out; have hcz57_0 : w51.cell? ⟨gb269, 0, none⟩ = some (.int .i64 0) := (blk_cell BK269.out 0).trans rfl; have hcz57_1 : w51.cell? ⟨gb269, 1, none⟩ = some (.slice none 0 0) := (blk_cell BK269.out 1).trans rfl; have hcz57_2 : w51.cell? ⟨gb269, 2, none⟩ = some (.int .i64 0) := (blk_cell BK269.out 2).trans rfl; have hfz57_0 := blk_frozen BK269.out 0; have hfz57_1 := blk_frozen BK269.out 1; have hfz57_2 := blk_frozen BK269.out 2))
      (try simp only [Act.put, List.setIfInBounds_toArray, List.set_cons_zero, List.set_cons_succ])
      go_cut [63] (fun v63 wc => ∃ (kq : Nat) (x63_11 : Bool), v63 = .bool x63_11 ∧ Aside0 (footwaylaw09_QueueTells.j0 kq a0 (a2.extract 0 ((ji5) : Int).toNat) t243 t250 t251 t258 t259 t266 t267 x63_11 t233 t234 t237 t238 t239 t242 t245 t246 t249 t253 t254 t257 t261 t262 t265 0 0 = some r) ∧ Aside0 (kq ≤ k) ∧ Aside0 (Kd.R Kd.string 9 wc w.heap.size (fun k_ => some k_ ≠ ((.slice Ao24 t239.length co24) : Value).ownBlock ∧ some k_ ≠ ((.slice Ao50 t262.length co50) : Value).ownBlock) (.slice Ao17 t234.length co17) t234) ∧ Aside0 (Kd.R Kd.string 9 wc w.heap.size (fun k_ => some k_ ≠ ((.slice Ao17 t234.length co17) : Value).ownBlock ∧ some k_ ≠ ((.slice Ao50 t262.length co50) : Value).ownBlock) (.slice Ao24 t239.length co24) t239) ∧ Aside0 (Kd.V Kd.string 9 wc w.heap.size (fun k_ => some k_ ≠ ((.slice Ao24 t239.length co24) : Value).ownBlock ∧ some k_ ≠ ((.slice Ao50 t262.length co50) : Value).ownBlock ∧ k_ ≠ gb232 ∧ k_ ≠ gb244 ∧ k_ ≠ gb252 ∧ k_ ≠ gb260 ∧ k_ ≠ gb268 ∧ k_ ≠ gb269) (.slice Ao32 t246.length co32) t246) ∧ Aside0 (Kd.V Kd.string 9 wc w.heap.size (fun k_ => some k_ ≠ ((.slice Ao24 t239.length co24) : Value).ownBlock ∧ some k_ ≠ ((.slice Ao50 t262.length co50) : Value).ownBlock ∧ k_ ≠ gb232 ∧ k_ ≠ gb244 ∧ k_ ≠ gb252 ∧ k_ ≠ gb260 ∧ k_ ≠ gb268 ∧ k_ ≠ gb269) (.slice Ao41 t254.length co41) t254) ∧ Aside0 (Kd.R Kd.string 9 wc w.heap.size (fun k_ => some k_ ≠ ((.slice Ao17 t234.length co17) : Value).ownBlock ∧ some k_ ≠ ((.slice Ao24 t239.length co24) : Value).ownBlock) (.slice Ao50 t262.length co50) t262) ∧ Aside0 (wc.heap[gb232]? = some (.cells #[.int .i64 t233, (.slice Ao17 t234.length co17), .int .i64 t237] 35 (0, 0))) ∧ Aside0 (wc.heap[gb244]? = some (.cells #[.int .i64 t238, (.slice Ao24 t239.length co24), .int .i64 t242] 35 (0, 0))) ∧ Aside0 (wc.heap[gb252]? = some (.cells #[.int .i64 t245, (.slice Ao32 t246.length co32), .int .i64 t249] 35 (0, 0))) ∧ Aside0 (wc.heap[gb260]? = some (.cells #[.int .i64 t253, (.slice Ao41 t254.length co41), .int .i64 t257] 35 (0, 0))) ∧ Aside0 (wc.heap[gb268]? = some (.cells #[.int .i64 t261, (.slice Ao50 t262.length co50), .int .i64 t265] 35 (0, 0))) ∧ Aside0 (wc.heap[gb269]? = some (.cells #[.int .i64 0, (.slice none 0 0), .int .i64 0] 35 (0, 0))) ∧ Aside0 (Below w.heap.size w wc))
      case first =>
        have H := HC12.out
        clear HC12
        replace H := Option.bind_eq_some_iff.mp H
        obtain ⟨t270, A580, H⟩ := H
        replace H : ((footwayref09_Right.f k t233 t234 t237).bind fun t271 => (if (t270 != t271) = true then (footwaylaw09_QueueTells.j0 k a0 (a2.extract 0 ((ji5) : Int).toNat) t243 t250 t251 t258 t259 t266 t267 true t233 t234 t237 t238 t239 t242 t245 t246 t249 t253 t254 t257 t261 t262 t265 0 0) else ((footwaylaw09_alive.f k).bind fun t272 => (footwaylaw09_QueueTells.j0 k a0 (a2.extract 0 ((ji5) : Int).toNat) t243 t250 t251 t258 t259 t266 t267 (!t272) t233 t234 t237 t238 t239 t242 t245 t246 t249 t253 t254 t257 t261 t262 t265 0 0)))) = some r := H
        have A58 := Aside0.mk A580
        clear A580
        replace H := Option.bind_eq_some_iff.mp H
        obtain ⟨t271, A590, H⟩ := H
        replace H : (if (t270 != t271) = true then (footwaylaw09_QueueTells.j0 k a0 (a2.extract 0 ((ji5) : Int).toNat) t243 t250 t251 t258 t259 t266 t267 true t233 t234 t237 t238 t239 t242 t245 t246 t249 t253 t254 t257 t261 t262 t265 0 0) else ((footwaylaw09_alive.f k).bind fun t272 => (footwaylaw09_QueueTells.j0 k a0 (a2.extract 0 ((ji5) : Int).toNat) t243 t250 t251 t258 t259 t266 t267 (!t272) t233 t234 t237 t238 t239 t242 t245 t246 t249 t253 t254 t257 t261 t262 t265 0 0))) = some r := H
        have A59 := Aside0.mk A590
        clear A590
        by_cases c60 : (t270 != t271) = true
        · rw [if_pos c60] at H
          have c60b0 : (t270 != t271) = true := c60
          (try (have c60b1 : decide (t270 = t271) = false := by simpa using c60))
          (try (have c60b2 : (t270 == t271) = false := by simpa using c60))
          (try (have c60b3 : ¬ (t270 = t271) := by simpa using c60))
          clear c60
          (first | rw [c60b0] | (simp only [i64_w, i32_w]; rw [c60b0]) | skip)
          have H' := Aside0.mk H
          clear H
          try go_wp2
          have n0_ : Aside0 (Kd.R Kd.string 9 (((w51.setCell ⟨gb269, 0, none⟩ (.int .i64 0)).setCell ⟨gb269, 1, none⟩ (.slice none 0 0)).setCell ⟨gb269, 2, none⟩ (.int .i64 0)) w.heap.size (fun k_ => some k_ ≠ (.slice Ao24 t239.length co24 : Value).ownBlock ∧ some k_ ≠ (.slice Ao50 t262.length co50 : Value).ownBlock) (.slice Ao17 t234.length co17) t234) := ⟨by (with_reducible repeat (first | apply Kd.R_alloc | apply Kd.R_drewN | apply Kd.R_drew)); exact Kd.R_mono (Kd.R_far (p := ⟨gb269, 2, none⟩) (Kd.R_far (p := ⟨gb269, 1, none⟩) (Kd.R_far (p := ⟨gb269, 0, none⟩) (Kd.R_types HO236.out BK269.out (by decide)) (fun _ hk => hk.2) (.int .i64 0)) (fun _ hk => hk.2) (.slice none 0 0)) (fun _ hk => hk.2) (.int .i64 0)) (fun _ hk => ⟨hk.1.1, hk.1.2⟩)⟩
          have n1_ : Aside0 (Kd.R Kd.string 9 (((w51.setCell ⟨gb269, 0, none⟩ (.int .i64 0)).setCell ⟨gb269, 1, none⟩ (.slice none 0 0)).setCell ⟨gb269, 2, none⟩ (.int .i64 0)) w.heap.size (fun k_ => some k_ ≠ (.slice Ao17 t234.length co17 : Value).ownBlock ∧ some k_ ≠ (.slice Ao50 t262.length co50 : Value).ownBlock) (.slice Ao24 t239.length co24) t239) := ⟨by (with_reducible repeat (first | apply Kd.R_alloc | apply Kd.R_drewN | apply Kd.R_drew)); exact Kd.R_mono (Kd.R_far (p := ⟨gb269, 2, none⟩) (Kd.R_far (p := ⟨gb269, 1, none⟩) (Kd.R_far (p := ⟨gb269, 0, none⟩) (Kd.R_types HO241.out BK269.out (by decide)) (fun _ hk => hk.2) (.int .i64 0)) (fun _ hk => hk.2) (.slice none 0 0)) (fun _ hk => hk.2) (.int .i64 0)) (fun _ hk => ⟨hk.1.1, hk.1.2⟩)⟩
          have n2_ : Aside0 (Kd.V Kd.string 9 (((w51.setCell ⟨gb269, 0, none⟩ (.int .i64 0)).setCell ⟨gb269, 1, none⟩ (.slice none 0 0)).setCell ⟨gb269, 2, none⟩ (.int .i64 0)) w.heap.size (fun k_ => some k_ ≠ (.slice Ao24 t239.length co24 : Value).ownBlock ∧ some k_ ≠ (.slice Ao50 t262.length co50 : Value).ownBlock ∧ k_ ≠ gb232 ∧ k_ ≠ gb244 ∧ k_ ≠ gb252 ∧ k_ ≠ gb260 ∧ k_ ≠ gb268 ∧ k_ ≠ gb269) (.slice Ao32 t246.length co32) t246) := ⟨by (with_reducible repeat (first | apply Kd.V_alloc | apply Kd.V_drewN | apply Kd.V_drew)); exact Kd.V_mono (Kd.V_far (p := ⟨gb269, 2, none⟩) (Kd.V_far (p := ⟨gb269, 1, none⟩) (Kd.V_far (p := ⟨gb269, 0, none⟩) (Kd.V_mono HO248.out (fun k_ hk => (⟨hk, hk.2⟩ : _ ∧ k_ ≠ gb269))) (fun _ hk => hk.2) (.int .i64 0)) (fun _ hk => hk.2) (.slice none 0 0)) (fun _ hk => hk.2) (.int .i64 0)) (fun _ hk => ⟨hk.1.1.1.1.1.1, ⟨hk.1.1.1.2, ⟨hk.1.1.1.1.1.2.1, ⟨hk.1.1.1.1.1.2.2.1, ⟨hk.1.1.1.1.1.2.2.2, ⟨hk.1.1.1.1.2, ⟨hk.1.1.2, hk.1.2⟩⟩⟩⟩⟩⟩⟩)⟩
          have n3_ : Aside0 (Kd.V Kd.string 9 (((w51.setCell ⟨gb269, 0, none⟩ (.int .i64 0)).setCell ⟨gb269, 1, none⟩ (.slice none 0 0)).setCell ⟨gb269, 2, none⟩ (.int .i64 0)) w.heap.size (fun k_ => some k_ ≠ (.slice Ao24 t239.length co24 : Value).ownBlock ∧ some k_ ≠ (.slice Ao50 t262.length co50 : Value).ownBlock ∧ k_ ≠ gb232 ∧ k_ ≠ gb244 ∧ k_ ≠ gb252 ∧ k_ ≠ gb260 ∧ k_ ≠ gb268 ∧ k_ ≠ gb269) (.slice Ao41 t254.length co41) t254) := ⟨by (with_reducible repeat (first | apply Kd.V_alloc | apply Kd.V_drewN | apply Kd.V_drew)); exact Kd.V_mono (Kd.V_far (p := ⟨gb269, 2, none⟩) (Kd.V_far (p := ⟨gb269, 1, none⟩) (Kd.V_far (p := ⟨gb269, 0, none⟩) (Kd.V_mono HO256.out (fun k_ hk => (⟨hk, hk.2⟩ : _ ∧ k_ ≠ gb269))) (fun _ hk => hk.2) (.int .i64 0)) (fun _ hk => hk.2) (.slice none 0 0)) (fun _ hk => hk.2) (.int .i64 0)) (fun _ hk => ⟨hk.1.1.1.1.1.1, ⟨hk.1.1.1.2, ⟨hk.1.1.1.1.1.2.1, ⟨hk.1.1.1.1.1.2.2.1, ⟨hk.1.1.1.1.1.2.2.2, ⟨hk.1.1.1.1.2, ⟨hk.1.1.2, hk.1.2⟩⟩⟩⟩⟩⟩⟩)⟩
          have n4_ : Aside0 (Kd.R Kd.string 9 (((w51.setCell ⟨gb269, 0, none⟩ (.int .i64 0)).setCell ⟨gb269, 1, none⟩ (.slice none 0 0)).setCell ⟨gb269, 2, none⟩ (.int .i64 0)) w.heap.size (fun k_ => some k_ ≠ (.slice Ao17 t234.length co17 : Value).ownBlock ∧ some k_ ≠ (.slice Ao24 t239.length co24 : Value).ownBlock) (.slice Ao50 t262.length co50) t262) := ⟨by (with_reducible repeat (first | apply Kd.R_alloc | apply Kd.R_drewN | apply Kd.R_drew)); exact Kd.R_mono (Kd.R_far (p := ⟨gb269, 2, none⟩) (Kd.R_far (p := ⟨gb269, 1, none⟩) (Kd.R_far (p := ⟨gb269, 0, none⟩) (Kd.R_types HO264.out BK269.out (by decide)) (fun _ hk => hk.2) (.int .i64 0)) (fun _ hk => hk.2) (.slice none 0 0)) (fun _ hk => hk.2) (.int .i64 0)) (fun _ hk => ⟨hk.1.1.2, hk.1.2⟩)⟩
          have n5_ : Aside0 ((((w51.setCell ⟨gb269, 0, none⟩ (.int .i64 0)).setCell ⟨gb269, 1, none⟩ (.slice none 0 0)).setCell ⟨gb269, 2, none⟩ (.int .i64 0)).heap[gb232]? = some (.cells #[.int .i64 t233, .slice Ao17 t234.length co17, .int .i64 t237] 35 (0, 0))) := ⟨by (with_reducible repeat (first | refine blk_drewN ?_ _ | refine blk_drew ?_ | refine blk_alloc ?_ _)); refine blk_far ?_ NB232_269.out _; (with_reducible repeat (first | refine blk_drewN ?_ _ | refine blk_drew ?_ | refine blk_alloc ?_ _)); refine blk_far ?_ NB232_269.out _; (with_reducible repeat (first | refine blk_drewN ?_ _ | refine blk_drew ?_ | refine blk_alloc ?_ _)); refine blk_far ?_ NB232_269.out _; (with_reducible repeat (first | refine blk_drewN ?_ _ | refine blk_drew ?_ | refine blk_alloc ?_ _)); exact BK232.out⟩
          have n6_ : Aside0 ((((w51.setCell ⟨gb269, 0, none⟩ (.int .i64 0)).setCell ⟨gb269, 1, none⟩ (.slice none 0 0)).setCell ⟨gb269, 2, none⟩ (.int .i64 0)).heap[gb244]? = some (.cells #[.int .i64 t238, .slice Ao24 t239.length co24, .int .i64 t242] 35 (0, 0))) := ⟨by (with_reducible repeat (first | refine blk_drewN ?_ _ | refine blk_drew ?_ | refine blk_alloc ?_ _)); refine blk_far ?_ NB244_269.out _; (with_reducible repeat (first | refine blk_drewN ?_ _ | refine blk_drew ?_ | refine blk_alloc ?_ _)); refine blk_far ?_ NB244_269.out _; (with_reducible repeat (first | refine blk_drewN ?_ _ | refine blk_drew ?_ | refine blk_alloc ?_ _)); refine blk_far ?_ NB244_269.out _; (with_reducible repeat (first | refine blk_drewN ?_ _ | refine blk_drew ?_ | refine blk_alloc ?_ _)); exact BK244.out⟩
          have n7_ : Aside0 ((((w51.setCell ⟨gb269, 0, none⟩ (.int .i64 0)).setCell ⟨gb269, 1, none⟩ (.slice none 0 0)).setCell ⟨gb269, 2, none⟩ (.int .i64 0)).heap[gb252]? = some (.cells #[.int .i64 t245, .slice Ao32 t246.length co32, .int .i64 t249] 35 (0, 0))) := ⟨by (with_reducible repeat (first | refine blk_drewN ?_ _ | refine blk_drew ?_ | refine blk_alloc ?_ _)); refine blk_far ?_ NB252_269.out _; (with_reducible repeat (first | refine blk_drewN ?_ _ | refine blk_drew ?_ | refine blk_alloc ?_ _)); refine blk_far ?_ NB252_269.out _; (with_reducible repeat (first | refine blk_drewN ?_ _ | refine blk_drew ?_ | refine blk_alloc ?_ _)); refine blk_far ?_ NB252_269.out _; (with_reducible repeat (first | refine blk_drewN ?_ _ | refine blk_drew ?_ | refine blk_alloc ?_ _)); exact BK252.out⟩
          have n8_ : Aside0 ((((w51.setCell ⟨gb269, 0, none⟩ (.int .i64 0)).setCell ⟨gb269, 1, none⟩ (.slice none 0 0)).setCell ⟨gb269, 2, none⟩ (.int .i64 0)).heap[gb260]? = some (.cells #[.int .i64 t253, .slice Ao41 t254.length co41, .int .i64 t257] 35 (0, 0))) := ⟨by (with_reducible repeat (first | refine blk_drewN ?_ _ | refine blk_drew ?_ | refine blk_alloc ?_ _)); refine blk_far ?_ NB260_269.out _; (with_reducible repeat (first | refine blk_drewN ?_ _ | refine blk_drew ?_ | refine blk_alloc ?_ _)); refine blk_far ?_ NB260_269.out _; (with_reducible repeat (first | refine blk_drewN ?_ _ | refine blk_drew ?_ | refine blk_alloc ?_ _)); refine blk_far ?_ NB260_269.out _; (with_reducible repeat (first | refine blk_drewN ?_ _ | refine blk_drew ?_ | refine blk_alloc ?_ _)); exact BK260.out⟩
          have n9_ : Aside0 ((((w51.setCell ⟨gb269, 0, none⟩ (.int .i64 0)).setCell ⟨gb269, 1, none⟩ (.slice none 0 0)).setCell ⟨gb269, 2, none⟩ (.int .i64 0)).heap[gb268]? = some (.cells #[.int .i64 t261, .slice Ao50 t262.length co50, .int .i64 t265] 35 (0, 0))) := ⟨by (with_reducible repeat (first | refine blk_drewN ?_ _ | refine blk_drew ?_ | refine blk_alloc ?_ _)); refine blk_far ?_ NB268_269.out _; (with_reducible repeat (first | refine blk_drewN ?_ _ | refine blk_drew ?_ | refine blk_alloc ?_ _)); refine blk_far ?_ NB268_269.out _; (with_reducible repeat (first | refine blk_drewN ?_ _ | refine blk_drew ?_ | refine blk_alloc ?_ _)); refine blk_far ?_ NB268_269.out _; (with_reducible repeat (first | refine blk_drewN ?_ _ | refine blk_drew ?_ | refine blk_alloc ?_ _)); exact BK268.out⟩
          have n10_ : Aside0 ((((w51.setCell ⟨gb269, 0, none⟩ (.int .i64 0)).setCell ⟨gb269, 1, none⟩ (.slice none 0 0)).setCell ⟨gb269, 2, none⟩ (.int .i64 0)).heap[gb269]? = some (.cells #[.int .i64 0, .slice none 0 0, .int .i64 0] 35 (0, 0))) := ⟨by (with_reducible repeat (first | refine blk_drewN ?_ _ | refine blk_drew ?_ | refine blk_alloc ?_ _)); refine blk_put (cs := #[.int .i64 0, .slice none 0 0, .int .i64 0]) ?_ 2 _ rfl; (with_reducible repeat (first | refine blk_drewN ?_ _ | refine blk_drew ?_ | refine blk_alloc ?_ _)); refine blk_put (cs := #[.int .i64 0, .slice none 0 0, .int .i64 0]) ?_ 1 _ rfl; (with_reducible repeat (first | refine blk_drewN ?_ _ | refine blk_drew ?_ | refine blk_alloc ?_ _)); refine blk_put (cs := #[.int .i64 0, .slice none 0 0, .int .i64 0]) ?_ 0 _ rfl; (with_reducible repeat (first | refine blk_drewN ?_ _ | refine blk_drew ?_ | refine blk_alloc ?_ _)); exact BK269.out⟩
          have n11_ : Aside0 (Below w.heap.size w (((w51.setCell ⟨gb269, 0, none⟩ (.int .i64 0)).setCell ⟨gb269, 1, none⟩ (.slice none 0 0)).setCell ⟨gb269, 2, none⟩ (.int .i64 0))) := ⟨by repeat (first | (with_reducible first | exact HB.out | apply below_alloc | apply pw_below_drewN | apply below_drew1 | refine below_set ?_ GE232.out | refine below_set ?_ GE244.out | refine below_set ?_ GE252.out | refine below_set ?_ GE260.out | refine below_set ?_ GE268.out | refine below_set ?_ GE269.out) | exact HB.out)⟩
          (try clear HO236)
          (try clear HO241)
          (try clear HO248)
          (try clear HO256)
          (try clear HO264)
          (try clear BK232)
          (try clear BK244)
          (try clear BK252)
          (try clear BK260)
          (try clear BK268)
          (try clear BK269)
          (try clear HB)
          generalize (((w51.setCell ⟨gb269, 0, none⟩ (.int .i64 0)).setCell ⟨gb269, 1, none⟩ (.slice none 0 0)).setCell ⟨gb269, 2, none⟩ (.int .i64 0)) = w61 at n0_ n1_ n2_ n3_ n4_ n5_ n6_ n7_ n8_ n9_ n10_ n11_ ⊢
          have HO236 := n0_
          have HO241 := n1_
          have HO248 := n2_
          have HO256 := n3_
          have HO264 := n4_
          have BK232 := n5_
          have BK244 := n6_
          have BK252 := n7_
          have BK260 := n8_
          have BK268 := n9_
          have BK269 := n10_
          have HB := n11_
          clear n0_ n1_ n2_ n3_ n4_ n5_ n6_ n7_ n8_ n9_ n10_ n11_
          have n0_ := Aside0.mk (Kd.R_drew HO236.out)
          have n1_ := Aside0.mk (Kd.R_drew HO241.out)
          have n2_ := Aside0.mk (Kd.V_drew HO248.out)
          have n3_ := Aside0.mk (Kd.V_drew HO256.out)
          have n4_ := Aside0.mk (Kd.R_drew HO264.out)
          have n5_ := Aside0.mk (blk_drew BK232.out)
          have n6_ := Aside0.mk (blk_drew BK244.out)
          have n7_ := Aside0.mk (blk_drew BK252.out)
          have n8_ := Aside0.mk (blk_drew BK260.out)
          have n9_ := Aside0.mk (blk_drew BK268.out)
          have n10_ := Aside0.mk (blk_drew BK269.out)
          have n11_ := Aside0.mk (below_drew1 HB.out)
          clear HO236
          clear HO241
          clear HO248
          clear HO256
          clear HO264
          clear BK232
          clear BK244
          clear BK252
          clear BK260
          clear BK268
          clear BK269
          clear HB
          have HO236 := n0_
          have HO241 := n1_
          have HO248 := n2_
          have HO256 := n3_
          have HO264 := n4_
          have BK232 := n5_
          have BK244 := n6_
          have BK252 := n7_
          have BK260 := n8_
          have BK268 := n9_
          have BK269 := n10_
          have HB := n11_
          clear n0_ n1_ n2_ n3_ n4_ n5_ n6_ n7_ n8_ n9_ n10_ n11_
          refine start_ (n := 9) (S := fun w' => w'.cell? ⟨gb232, 0, none⟩ = some (.int .i64 t233) ∧ w'.cell? ⟨gb232, 1, none⟩ = some (.slice Ao17 t234.length co17) ∧ w'.cell? ⟨gb232, 2, none⟩ = some (.int .i64 t237)) (ds := []) #[false, false, false, false, false, false, false, false, false] (by kernel_rfl) rfl rfl ⟨(blk_cell BK232.out 0).trans rfl, (blk_cell BK232.out 1).trans rfl, (blk_cell BK232.out 2).trans rfl⟩ (fun hHeld => ?_); refine with_tabW footwaylaw09_QueueTells.tab7 footwaylaw09_QueueTells.bits7 (fun HT_ HW_ => ?_)
          generalize w61.drew = w62 at HO236 HO241 HO248 HO256 HO264 BK232 BK244 BK252 BK260 BK268 BK269 HB hHeld ⊢
          refine take_ (i := 0) (N := some 55) (v := ?_) (a' := ?_) #[true, false, false, false, false, false, false, false, false] rfl rfl (take_ofW HT_.out HW_.out (by kernel_rfl)) (fun _ _ _ h => h) (Or.inl ⟨by rfl, ?_⟩) hHeld ?_ ?_
          rotate_left
          · rintro w' ⟨s0, s1, s2⟩
            go_simp
            with_reducible rfl
          rotate_left
          · simp only [Act.put, List.setIfInBounds_toArray, List.set_cons_zero, List.set_cons_succ, i64_w, i32_w]
            rfl
          refine take_ (i := 2) (N := some 57) (v := ?_) (a' := ?_) #[true, false, true, false, false, false, false, false, false] rfl rfl (take_ofW HT_.out HW_.out (by kernel_rfl)) (fun _ _ _ h => h) (Or.inl ⟨by rfl, ?_⟩) hHeld ?_ ?_
          rotate_left
          · rintro w' ⟨s0, s1, s2⟩
            go_simp
            with_reducible rfl
          rotate_left
          · simp only [Act.put, List.setIfInBounds_toArray, List.set_cons_zero, List.set_cons_succ, i64_w, i32_w]
            rfl
          refine one_ (i := 1) (N := some 56) #[true, true, true, false, false, false, false, false, false] rfl rfl (one_of HT_.out (by kernel_rfl)) (by decide) (fun K hK => ?_)
          refine goes_ Try.func25 (by kernel_rfl) rfl #[.agg #[.int .i64 t233, .slice Ao17 t234.length co17, .int .i64 t237]] (by rfl) rfl rfl (by (try simp only [List.map_toArray, List.map_cons, List.map_nil]); first | done | rfl | (simp only [List.length_drop, List.length_take]; rfl)) ?_
          with_reducible refine (queue_Right.calls t233 _ _ t234 t237 t270 _ ?side1 ?side2 A58.out).mono ?_
          (case side1 => repeat (first | exact (Kd.R_reads' HO236.out).2.2 | (with_reducible refine Kd.C_alloc ?_ _) | (with_reducible refine Kd.C_drewN ?_ _) | (with_reducible refine Kd.C_drew ?_)))
          (case side2 => exact (Kd.R_reads' HO236.out).2.1)
          rintro e w63 ⟨rfl, hb⟩
          refine ⟨_, rfl, ?_⟩
          have n0_ := Aside0.mk (Kd.R_below (by (with_reducible repeat (first | apply Kd.R_alloc | apply Kd.R_drewN | apply Kd.R_drew)); exact HO236.out) hb)
          have n1_ := Aside0.mk (Kd.R_below (by (with_reducible repeat (first | apply Kd.R_alloc | apply Kd.R_drewN | apply Kd.R_drew)); exact HO241.out) hb)
          have n2_ := Aside0.mk (Kd.V_below (by (with_reducible repeat (first | apply Kd.V_alloc | apply Kd.V_drewN | apply Kd.V_drew)); exact HO248.out) hb)
          have n3_ := Aside0.mk (Kd.V_below (by (with_reducible repeat (first | apply Kd.V_alloc | apply Kd.V_drewN | apply Kd.V_drew)); exact HO256.out) hb)
          have n4_ := Aside0.mk (Kd.R_below (by (with_reducible repeat (first | apply Kd.R_alloc | apply Kd.R_drewN | apply Kd.R_drew)); exact HO264.out) hb)
          have n5_ := Aside0.mk (blk_below (g := gb232) (o := .cells #[.int .i64 t233, .slice Ao17 t234.length co17, .int .i64 t237] 35 (0, 0)) (by (with_reducible repeat (first | refine blk_drewN ?_ _ | refine blk_drew ?_ | refine blk_alloc ?_ _)); exact BK232.out) hb)
          have n6_ := Aside0.mk (blk_below (g := gb244) (o := .cells #[.int .i64 t238, .slice Ao24 t239.length co24, .int .i64 t242] 35 (0, 0)) (by (with_reducible repeat (first | refine blk_drewN ?_ _ | refine blk_drew ?_ | refine blk_alloc ?_ _)); exact BK244.out) hb)
          have n7_ := Aside0.mk (blk_below (g := gb252) (o := .cells #[.int .i64 t245, .slice Ao32 t246.length co32, .int .i64 t249] 35 (0, 0)) (by (with_reducible repeat (first | refine blk_drewN ?_ _ | refine blk_drew ?_ | refine blk_alloc ?_ _)); exact BK252.out) hb)
          have n8_ := Aside0.mk (blk_below (g := gb260) (o := .cells #[.int .i64 t253, .slice Ao41 t254.length co41, .int .i64 t257] 35 (0, 0)) (by (with_reducible repeat (first | refine blk_drewN ?_ _ | refine blk_drew ?_ | refine blk_alloc ?_ _)); exact BK260.out) hb)
          have n9_ := Aside0.mk (blk_below (g := gb268) (o := .cells #[.int .i64 t261, .slice Ao50 t262.length co50, .int .i64 t265] 35 (0, 0)) (by (with_reducible repeat (first | refine blk_drewN ?_ _ | refine blk_drew ?_ | refine blk_alloc ?_ _)); exact BK268.out) hb)
          have n10_ := Aside0.mk (blk_below (g := gb269) (o := .cells #[.int .i64 0, .slice none 0 0, .int .i64 0] 35 (0, 0)) (by (with_reducible repeat (first | refine blk_drewN ?_ _ | refine blk_drew ?_ | refine blk_alloc ?_ _)); exact BK269.out) hb)
          have n11_ := Aside0.mk (below_step (by repeat (first | (with_reducible first | exact HB.out | apply below_alloc | apply pw_below_drewN | apply below_drew1 | refine below_set ?_ GE232.out | refine below_set ?_ GE244.out | refine below_set ?_ GE252.out | refine below_set ?_ GE260.out | refine below_set ?_ GE268.out | refine below_set ?_ GE269.out) | exact HB.out)) hb)
          clear HO236
          clear HO241
          clear HO248
          clear HO256
          clear HO264
          clear BK232
          clear BK244
          clear BK252
          clear BK260
          clear BK268
          clear BK269
          clear HB
          have HO236 := n0_
          have HO241 := n1_
          have HO248 := n2_
          have HO256 := n3_
          have HO264 := n4_
          have BK232 := n5_
          have BK244 := n6_
          have BK252 := n7_
          have BK260 := n8_
          have BK268 := n9_
          have BK269 := n10_
          have HB := n11_
          clear n0_ n1_ n2_ n3_ n4_ n5_ n6_ n7_ n8_ n9_ n10_ n11_
          (try clear hb)
          (try clear hb2)
          (try clear hk)
          (try clear hi)
          refine hK.out _ _ ⟨(blk_cell BK232.out 0).trans rfl, (blk_cell BK232.out 1).trans rfl, (blk_cell BK232.out 2).trans rfl⟩ (fun hHeld => ?_)
          clear hK K
          refine norm_ (a' := ?_) ?_ ?_
          rotate_left
          · show Act.put _ (some 56) _ = _
            simp only [Act.put, List.setIfInBounds_toArray, List.set_cons_zero, List.set_cons_succ, i64_w, i32_w]
            rfl
          refine one_ (i := 3) (N := some 58) #[true, true, true, true, false, false, false, false, false] rfl rfl (one_of HT_.out (by kernel_rfl)) (by decide) (fun K hK => ?_)
          refine goes_ Try.func26 (by kernel_rfl) rfl #[.agg #[.int .i64 t233, .slice Ao17 t234.length co17, .int .i64 t237]] (by rfl) rfl rfl (by (try simp only [List.map_toArray, List.map_cons, List.map_nil]); first | done | rfl | (simp only [List.length_drop, List.length_take]; rfl)) ?_
          with_reducible refine (footwayref09_Right.calls k t233 _ _ t234 t237 t271 _ ?side1 ?side2 A59.out).mono ?_
          (case side1 => repeat (first | exact (Kd.R_reads' HO236.out).2.2 | (with_reducible refine Kd.C_alloc ?_ _) | (with_reducible refine Kd.C_drewN ?_ _) | (with_reducible refine Kd.C_drew ?_)))
          (case side2 => exact (Kd.R_reads' HO236.out).2.1)
          rintro e w64 ⟨rfl, hb⟩
          refine ⟨_, rfl, ?_⟩
          have n0_ := Aside0.mk (Kd.R_below (by (with_reducible repeat (first | apply Kd.R_alloc | apply Kd.R_drewN | apply Kd.R_drew)); exact HO236.out) hb)
          have n1_ := Aside0.mk (Kd.R_below (by (with_reducible repeat (first | apply Kd.R_alloc | apply Kd.R_drewN | apply Kd.R_drew)); exact HO241.out) hb)
          have n2_ := Aside0.mk (Kd.V_below (by (with_reducible repeat (first | apply Kd.V_alloc | apply Kd.V_drewN | apply Kd.V_drew)); exact HO248.out) hb)
          have n3_ := Aside0.mk (Kd.V_below (by (with_reducible repeat (first | apply Kd.V_alloc | apply Kd.V_drewN | apply Kd.V_drew)); exact HO256.out) hb)
          have n4_ := Aside0.mk (Kd.R_below (by (with_reducible repeat (first | apply Kd.R_alloc | apply Kd.R_drewN | apply Kd.R_drew)); exact HO264.out) hb)
          have n5_ := Aside0.mk (blk_below (g := gb232) (o := .cells #[.int .i64 t233, .slice Ao17 t234.length co17, .int .i64 t237] 35 (0, 0)) (by (with_reducible repeat (first | refine blk_drewN ?_ _ | refine blk_drew ?_ | refine blk_alloc ?_ _)); exact BK232.out) hb)
          have n6_ := Aside0.mk (blk_below (g := gb244) (o := .cells #[.int .i64 t238, .slice Ao24 t239.length co24, .int .i64 t242] 35 (0, 0)) (by (with_reducible repeat (first | refine blk_drewN ?_ _ | refine blk_drew ?_ | refine blk_alloc ?_ _)); exact BK244.out) hb)
          have n7_ := Aside0.mk (blk_below (g := gb252) (o := .cells #[.int .i64 t245, .slice Ao32 t246.length co32, .int .i64 t249] 35 (0, 0)) (by (with_reducible repeat (first | refine blk_drewN ?_ _ | refine blk_drew ?_ | refine blk_alloc ?_ _)); exact BK252.out) hb)
          have n8_ := Aside0.mk (blk_below (g := gb260) (o := .cells #[.int .i64 t253, .slice Ao41 t254.length co41, .int .i64 t257] 35 (0, 0)) (by (with_reducible repeat (first | refine blk_drewN ?_ _ | refine blk_drew ?_ | refine blk_alloc ?_ _)); exact BK260.out) hb)
          have n9_ := Aside0.mk (blk_below (g := gb268) (o := .cells #[.int .i64 t261, .slice Ao50 t262.length co50, .int .i64 t265] 35 (0, 0)) (by (with_reducible repeat (first | refine blk_drewN ?_ _ | refine blk_drew ?_ | refine blk_alloc ?_ _)); exact BK268.out) hb)
          have n10_ := Aside0.mk (blk_below (g := gb269) (o := .cells #[.int .i64 0, .slice none 0 0, .int .i64 0] 35 (0, 0)) (by (with_reducible repeat (first | refine blk_drewN ?_ _ | refine blk_drew ?_ | refine blk_alloc ?_ _)); exact BK269.out) hb)
          have n11_ := Aside0.mk (below_step (by repeat (first | (with_reducible first | exact HB.out | apply below_alloc | apply pw_below_drewN | apply below_drew1 | refine below_set ?_ GE232.out | refine below_set ?_ GE244.out | refine below_set ?_ GE252.out | refine below_set ?_ GE260.out | refine below_set ?_ GE268.out | refine below_set ?_ GE269.out) | exact HB.out)) hb)
          clear HO236
          clear HO241
          clear HO248
          clear HO256
          clear HO264
          clear BK232
          clear BK244
          clear BK252
          clear BK260
          clear BK268
          clear BK269
          clear HB
          have HO236 := n0_
          have HO241 := n1_
          have HO248 := n2_
          have HO256 := n3_
          have HO264 := n4_
          have BK232 := n5_
          have BK244 := n6_
          have BK252 := n7_
          have BK260 := n8_
          have BK268 := n9_
          have BK269 := n10_
          have HB := n11_
          clear n0_ n1_ n2_ n3_ n4_ n5_ n6_ n7_ n8_ n9_ n10_ n11_
          (try clear hb)
          (try clear hb2)
          (try clear hk)
          (try clear hi)
          refine hK.out _ _ ⟨(blk_cell BK232.out 0).trans rfl, (blk_cell BK232.out 1).trans rfl, (blk_cell BK232.out 2).trans rfl⟩ (fun hHeld => ?_)
          clear hK K
          refine norm_ (a' := ?_) ?_ ?_
          rotate_left
          · show Act.put _ (some 58) _ = _
            simp only [Act.put, List.setIfInBounds_toArray, List.set_cons_zero, List.set_cons_succ, i64_w, i32_w]
            rfl
          refine pure_ (i := 4) (N := some 59) (v := ?_) (a' := ?_) #[true, true, true, true, true, false, false, false, false] rfl rfl (any_of HT_.out (by kernel_rfl)) (fun _ _ _ h => h) (Or.inl ⟨by rfl, ?_⟩) ?_ ?_
          rotate_left
          · intro w'
            go_simp
            with_reducible rfl
          rotate_left
          · simp only [Act.put, List.setIfInBounds_toArray, List.set_cons_zero, List.set_cons_succ, i64_w, i32_w]
            rfl
          refine pure_ (i := 5) (N := some 60) (v := ?_) (a' := ?_) #[true, true, true, true, true, true, false, false, false] rfl rfl (any_of HT_.out (by kernel_rfl)) (fun _ _ _ h => h) (Or.inl ⟨by rfl, ?_⟩) ?_ ?_
          rotate_left
          · intro w'
            go_simp
            with_reducible rfl
          rotate_left
          · simp only [Act.put, List.setIfInBounds_toArray, List.set_cons_zero, List.set_cons_succ, i64_w, i32_w]
            rfl
          refine pure_ (i := 6) (N := some 61) (v := undef) (a' := ?_) #[true, true, true, true, true, true, true, false, false] rfl rfl (any_of HT_.out (by kernel_rfl)) (fun _ _ _ h => h) (Or.inr ⟨by rfl, rfl⟩) ?_ ?_
          rotate_left
          · simp only [Act.put, List.setIfInBounds_toArray, List.set_cons_zero, List.set_cons_succ, i64_w, i32_w]
            rfl
          refine pure_ (i := 7) (N := some 62) (v := undef) (a' := ?_) #[true, true, true, true, true, true, true, true, false] rfl rfl (any_of HT_.out (by kernel_rfl)) (fun _ _ _ h => h) (Or.inr ⟨by rfl, rfl⟩) ?_ ?_
          rotate_left
          · simp only [Act.put, List.setIfInBounds_toArray, List.set_cons_zero, List.set_cons_succ, i64_w, i32_w]
            rfl
          refine pure_ (i := 8) (N := some 63) (v := ?_) (a' := ?_) #[true, true, true, true, true, true, true, true, true] rfl rfl (any_of HT_.out (by kernel_rfl)) (fun _ _ _ h => h) (Or.inl ⟨by rfl, ?_⟩) ?_ ?_
          rotate_left
          · intro w'
            go_simp
            with_reducible rfl
          rotate_left
          · simp only [Act.put, List.setIfInBounds_toArray, List.set_cons_zero, List.set_cons_succ, i64_w, i32_w]
            rfl
          refine done_ (done_of HT_.out (by kernel_rfl)) ?_
          try go_wp2
          go_meet
          case rel => exact ⟨_, (true), (by first | rfl | (simp; done) | (simp [*]; done)), H', ⟨by first | omega | exact Nat.le_refl _⟩, ⟨by (with_reducible repeat (first | apply Kd.R_alloc | apply Kd.R_drewN | apply Kd.R_drew)); exact HO236.out⟩, ⟨by (with_reducible repeat (first | apply Kd.R_alloc | apply Kd.R_drewN | apply Kd.R_drew)); exact HO241.out⟩, ⟨by (with_reducible repeat (first | apply Kd.V_alloc | apply Kd.V_drewN | apply Kd.V_drew)); exact HO248.out⟩, ⟨by (with_reducible repeat (first | apply Kd.V_alloc | apply Kd.V_drewN | apply Kd.V_drew)); exact HO256.out⟩, ⟨by (with_reducible repeat (first | apply Kd.R_alloc | apply Kd.R_drewN | apply Kd.R_drew)); exact HO264.out⟩, ⟨by (with_reducible repeat (first | refine blk_drewN ?_ _ | refine blk_drew ?_ | refine blk_alloc ?_ _)); exact BK232.out⟩, ⟨by (with_reducible repeat (first | refine blk_drewN ?_ _ | refine blk_drew ?_ | refine blk_alloc ?_ _)); exact BK244.out⟩, ⟨by (with_reducible repeat (first | refine blk_drewN ?_ _ | refine blk_drew ?_ | refine blk_alloc ?_ _)); exact BK252.out⟩, ⟨by (with_reducible repeat (first | refine blk_drewN ?_ _ | refine blk_drew ?_ | refine blk_alloc ?_ _)); exact BK260.out⟩, ⟨by (with_reducible repeat (first | refine blk_drewN ?_ _ | refine blk_drew ?_ | refine blk_alloc ?_ _)); exact BK268.out⟩, ⟨by (with_reducible repeat (first | refine blk_drewN ?_ _ | refine blk_drew ?_ | refine blk_alloc ?_ _)); exact BK269.out⟩, ⟨by repeat (first | (with_reducible first | exact HB.out | apply below_alloc | apply pw_below_drewN | apply below_drew1 | refine below_set ?_ GE232.out | refine below_set ?_ GE244.out | refine below_set ?_ GE252.out | refine below_set ?_ GE260.out | refine below_set ?_ GE268.out | refine below_set ?_ GE269.out) | exact HB.out)⟩⟩
        · rw [if_neg c60] at H
          have c60b0 : (t270 != t271) = false := by simpa using c60
          (try (have c60b1 : decide (t270 = t271) = true := by simpa using c60))
          (try (have c60b2 : (t270 == t271) = true := by simpa using c60))
          clear c60
          (first | rw [c60b0] | (simp only [i64_w, i32_w]; rw [c60b0]) | skip)
          replace H := Option.bind_eq_some_iff.mp H
          obtain ⟨t272, A650, H⟩ := H
          replace H : (footwaylaw09_QueueTells.j0 k a0 (a2.extract 0 ((ji5) : Int).toNat) t243 t250 t251 t258 t259 t266 t267 (!t272) t233 t234 t237 t238 t239 t242 t245 t246 t249 t253 t254 t257 t261 t262 t265 0 0) = some r := H
          have A65 := Aside0.mk A650
          clear A650
          have H' := Aside0.mk H
          clear H
          try go_wp2
          have n0_ : Aside0 (Kd.R Kd.string 9 (((w51.setCell ⟨gb269, 0, none⟩ (.int .i64 0)).setCell ⟨gb269, 1, none⟩ (.slice none 0 0)).setCell ⟨gb269, 2, none⟩ (.int .i64 0)) w.heap.size (fun k_ => some k_ ≠ (.slice Ao24 t239.length co24 : Value).ownBlock ∧ some k_ ≠ (.slice Ao50 t262.length co50 : Value).ownBlock) (.slice Ao17 t234.length co17) t234) := ⟨by (with_reducible repeat (first | apply Kd.R_alloc | apply Kd.R_drewN | apply Kd.R_drew)); exact Kd.R_mono (Kd.R_far (p := ⟨gb269, 2, none⟩) (Kd.R_far (p := ⟨gb269, 1, none⟩) (Kd.R_far (p := ⟨gb269, 0, none⟩) (Kd.R_types HO236.out BK269.out (by decide)) (fun _ hk => hk.2) (.int .i64 0)) (fun _ hk => hk.2) (.slice none 0 0)) (fun _ hk => hk.2) (.int .i64 0)) (fun _ hk => ⟨hk.1.1, hk.1.2⟩)⟩
          have n1_ : Aside0 (Kd.R Kd.string 9 (((w51.setCell ⟨gb269, 0, none⟩ (.int .i64 0)).setCell ⟨gb269, 1, none⟩ (.slice none 0 0)).setCell ⟨gb269, 2, none⟩ (.int .i64 0)) w.heap.size (fun k_ => some k_ ≠ (.slice Ao17 t234.length co17 : Value).ownBlock ∧ some k_ ≠ (.slice Ao50 t262.length co50 : Value).ownBlock) (.slice Ao24 t239.length co24) t239) := ⟨by (with_reducible repeat (first | apply Kd.R_alloc | apply Kd.R_drewN | apply Kd.R_drew)); exact Kd.R_mono (Kd.R_far (p := ⟨gb269, 2, none⟩) (Kd.R_far (p := ⟨gb269, 1, none⟩) (Kd.R_far (p := ⟨gb269, 0, none⟩) (Kd.R_types HO241.out BK269.out (by decide)) (fun _ hk => hk.2) (.int .i64 0)) (fun _ hk => hk.2) (.slice none 0 0)) (fun _ hk => hk.2) (.int .i64 0)) (fun _ hk => ⟨hk.1.1, hk.1.2⟩)⟩
          have n2_ : Aside0 (Kd.V Kd.string 9 (((w51.setCell ⟨gb269, 0, none⟩ (.int .i64 0)).setCell ⟨gb269, 1, none⟩ (.slice none 0 0)).setCell ⟨gb269, 2, none⟩ (.int .i64 0)) w.heap.size (fun k_ => some k_ ≠ (.slice Ao24 t239.length co24 : Value).ownBlock ∧ some k_ ≠ (.slice Ao50 t262.length co50 : Value).ownBlock ∧ k_ ≠ gb232 ∧ k_ ≠ gb244 ∧ k_ ≠ gb252 ∧ k_ ≠ gb260 ∧ k_ ≠ gb268 ∧ k_ ≠ gb269) (.slice Ao32 t246.length co32) t246) := ⟨by (with_reducible repeat (first | apply Kd.V_alloc | apply Kd.V_drewN | apply Kd.V_drew)); exact Kd.V_mono (Kd.V_far (p := ⟨gb269, 2, none⟩) (Kd.V_far (p := ⟨gb269, 1, none⟩) (Kd.V_far (p := ⟨gb269, 0, none⟩) (Kd.V_mono HO248.out (fun k_ hk => (⟨hk, hk.2⟩ : _ ∧ k_ ≠ gb269))) (fun _ hk => hk.2) (.int .i64 0)) (fun _ hk => hk.2) (.slice none 0 0)) (fun _ hk => hk.2) (.int .i64 0)) (fun _ hk => ⟨hk.1.1.1.1.1.1, ⟨hk.1.1.1.2, ⟨hk.1.1.1.1.1.2.1, ⟨hk.1.1.1.1.1.2.2.1, ⟨hk.1.1.1.1.1.2.2.2, ⟨hk.1.1.1.1.2, ⟨hk.1.1.2, hk.1.2⟩⟩⟩⟩⟩⟩⟩)⟩
          have n3_ : Aside0 (Kd.V Kd.string 9 (((w51.setCell ⟨gb269, 0, none⟩ (.int .i64 0)).setCell ⟨gb269, 1, none⟩ (.slice none 0 0)).setCell ⟨gb269, 2, none⟩ (.int .i64 0)) w.heap.size (fun k_ => some k_ ≠ (.slice Ao24 t239.length co24 : Value).ownBlock ∧ some k_ ≠ (.slice Ao50 t262.length co50 : Value).ownBlock ∧ k_ ≠ gb232 ∧ k_ ≠ gb244 ∧ k_ ≠ gb252 ∧ k_ ≠ gb260 ∧ k_ ≠ gb268 ∧ k_ ≠ gb269) (.slice Ao41 t254.length co41) t254) := ⟨by (with_reducible repeat (first | apply Kd.V_alloc | apply Kd.V_drewN | apply Kd.V_drew)); exact Kd.V_mono (Kd.V_far (p := ⟨gb269, 2, none⟩) (Kd.V_far (p := ⟨gb269, 1, none⟩) (Kd.V_far (p := ⟨gb269, 0, none⟩) (Kd.V_mono HO256.out (fun k_ hk => (⟨hk, hk.2⟩ : _ ∧ k_ ≠ gb269))) (fun _ hk => hk.2) (.int .i64 0)) (fun _ hk => hk.2) (.slice none 0 0)) (fun _ hk => hk.2) (.int .i64 0)) (fun _ hk => ⟨hk.1.1.1.1.1.1, ⟨hk.1.1.1.2, ⟨hk.1.1.1.1.1.2.1, ⟨hk.1.1.1.1.1.2.2.1, ⟨hk.1.1.1.1.1.2.2.2, ⟨hk.1.1.1.1.2, ⟨hk.1.1.2, hk.1.2⟩⟩⟩⟩⟩⟩⟩)⟩
          have n4_ : Aside0 (Kd.R Kd.string 9 (((w51.setCell ⟨gb269, 0, none⟩ (.int .i64 0)).setCell ⟨gb269, 1, none⟩ (.slice none 0 0)).setCell ⟨gb269, 2, none⟩ (.int .i64 0)) w.heap.size (fun k_ => some k_ ≠ (.slice Ao17 t234.length co17 : Value).ownBlock ∧ some k_ ≠ (.slice Ao24 t239.length co24 : Value).ownBlock) (.slice Ao50 t262.length co50) t262) := ⟨by (with_reducible repeat (first | apply Kd.R_alloc | apply Kd.R_drewN | apply Kd.R_drew)); exact Kd.R_mono (Kd.R_far (p := ⟨gb269, 2, none⟩) (Kd.R_far (p := ⟨gb269, 1, none⟩) (Kd.R_far (p := ⟨gb269, 0, none⟩) (Kd.R_types HO264.out BK269.out (by decide)) (fun _ hk => hk.2) (.int .i64 0)) (fun _ hk => hk.2) (.slice none 0 0)) (fun _ hk => hk.2) (.int .i64 0)) (fun _ hk => ⟨hk.1.1.2, hk.1.2⟩)⟩
          have n5_ : Aside0 ((((w51.setCell ⟨gb269, 0, none⟩ (.int .i64 0)).setCell ⟨gb269, 1, none⟩ (.slice none 0 0)).setCell ⟨gb269, 2, none⟩ (.int .i64 0)).heap[gb232]? = some (.cells #[.int .i64 t233, .slice Ao17 t234.length co17, .int .i64 t237] 35 (0, 0))) := ⟨by (with_reducible repeat (first | refine blk_drewN ?_ _ | refine blk_drew ?_ | refine blk_alloc ?_ _)); refine blk_far ?_ NB232_269.out _; (with_reducible repeat (first | refine blk_drewN ?_ _ | refine blk_drew ?_ | refine blk_alloc ?_ _)); refine blk_far ?_ NB232_269.out _; (with_reducible repeat (first | refine blk_drewN ?_ _ | refine blk_drew ?_ | refine blk_alloc ?_ _)); refine blk_far ?_ NB232_269.out _; (with_reducible repeat (first | refine blk_drewN ?_ _ | refine blk_drew ?_ | refine blk_alloc ?_ _)); exact BK232.out⟩
          have n6_ : Aside0 ((((w51.setCell ⟨gb269, 0, none⟩ (.int .i64 0)).setCell ⟨gb269, 1, none⟩ (.slice none 0 0)).setCell ⟨gb269, 2, none⟩ (.int .i64 0)).heap[gb244]? = some (.cells #[.int .i64 t238, .slice Ao24 t239.length co24, .int .i64 t242] 35 (0, 0))) := ⟨by (with_reducible repeat (first | refine blk_drewN ?_ _ | refine blk_drew ?_ | refine blk_alloc ?_ _)); refine blk_far ?_ NB244_269.out _; (with_reducible repeat (first | refine blk_drewN ?_ _ | refine blk_drew ?_ | refine blk_alloc ?_ _)); refine blk_far ?_ NB244_269.out _; (with_reducible repeat (first | refine blk_drewN ?_ _ | refine blk_drew ?_ | refine blk_alloc ?_ _)); refine blk_far ?_ NB244_269.out _; (with_reducible repeat (first | refine blk_drewN ?_ _ | refine blk_drew ?_ | refine blk_alloc ?_ _)); exact BK244.out⟩
          have n7_ : Aside0 ((((w51.setCell ⟨gb269, 0, none⟩ (.int .i64 0)).setCell ⟨gb269, 1, none⟩ (.slice none 0 0)).setCell ⟨gb269, 2, none⟩ (.int .i64 0)).heap[gb252]? = some (.cells #[.int .i64 t245, .slice Ao32 t246.length co32, .int .i64 t249] 35 (0, 0))) := ⟨by (with_reducible repeat (first | refine blk_drewN ?_ _ | refine blk_drew ?_ | refine blk_alloc ?_ _)); refine blk_far ?_ NB252_269.out _; (with_reducible repeat (first | refine blk_drewN ?_ _ | refine blk_drew ?_ | refine blk_alloc ?_ _)); refine blk_far ?_ NB252_269.out _; (with_reducible repeat (first | refine blk_drewN ?_ _ | refine blk_drew ?_ | refine blk_alloc ?_ _)); refine blk_far ?_ NB252_269.out _; (with_reducible repeat (first | refine blk_drewN ?_ _ | refine blk_drew ?_ | refine blk_alloc ?_ _)); exact BK252.out⟩
          have n8_ : Aside0 ((((w51.setCell ⟨gb269, 0, none⟩ (.int .i64 0)).setCell ⟨gb269, 1, none⟩ (.slice none 0 0)).setCell ⟨gb269, 2, none⟩ (.int .i64 0)).heap[gb260]? = some (.cells #[.int .i64 t253, .slice Ao41 t254.length co41, .int .i64 t257] 35 (0, 0))) := ⟨by (with_reducible repeat (first | refine blk_drewN ?_ _ | refine blk_drew ?_ | refine blk_alloc ?_ _)); refine blk_far ?_ NB260_269.out _; (with_reducible repeat (first | refine blk_drewN ?_ _ | refine blk_drew ?_ | refine blk_alloc ?_ _)); refine blk_far ?_ NB260_269.out _; (with_reducible repeat (first | refine blk_drewN ?_ _ | refine blk_drew ?_ | refine blk_alloc ?_ _)); refine blk_far ?_ NB260_269.out _; (with_reducible repeat (first | refine blk_drewN ?_ _ | refine blk_drew ?_ | refine blk_alloc ?_ _)); exact BK260.out⟩
          have n9_ : Aside0 ((((w51.setCell ⟨gb269, 0, none⟩ (.int .i64 0)).setCell ⟨gb269, 1, none⟩ (.slice none 0 0)).setCell ⟨gb269, 2, none⟩ (.int .i64 0)).heap[gb268]? = some (.cells #[.int .i64 t261, .slice Ao50 t262.length co50, .int .i64 t265] 35 (0, 0))) := ⟨by (with_reducible repeat (first | refine blk_drewN ?_ _ | refine blk_drew ?_ | refine blk_alloc ?_ _)); refine blk_far ?_ NB268_269.out _; (with_reducible repeat (first | refine blk_drewN ?_ _ | refine blk_drew ?_ | refine blk_alloc ?_ _)); refine blk_far ?_ NB268_269.out _; (with_reducible repeat (first | refine blk_drewN ?_ _ | refine blk_drew ?_ | refine blk_alloc ?_ _)); refine blk_far ?_ NB268_269.out _; (with_reducible repeat (first | refine blk_drewN ?_ _ | refine blk_drew ?_ | refine blk_alloc ?_ _)); exact BK268.out⟩
          have n10_ : Aside0 ((((w51.setCell ⟨gb269, 0, none⟩ (.int .i64 0)).setCell ⟨gb269, 1, none⟩ (.slice none 0 0)).setCell ⟨gb269, 2, none⟩ (.int .i64 0)).heap[gb269]? = some (.cells #[.int .i64 0, .slice none 0 0, .int .i64 0] 35 (0, 0))) := ⟨by (with_reducible repeat (first | refine blk_drewN ?_ _ | refine blk_drew ?_ | refine blk_alloc ?_ _)); refine blk_put (cs := #[.int .i64 0, .slice none 0 0, .int .i64 0]) ?_ 2 _ rfl; (with_reducible repeat (first | refine blk_drewN ?_ _ | refine blk_drew ?_ | refine blk_alloc ?_ _)); refine blk_put (cs := #[.int .i64 0, .slice none 0 0, .int .i64 0]) ?_ 1 _ rfl; (with_reducible repeat (first | refine blk_drewN ?_ _ | refine blk_drew ?_ | refine blk_alloc ?_ _)); refine blk_put (cs := #[.int .i64 0, .slice none 0 0, .int .i64 0]) ?_ 0 _ rfl; (with_reducible repeat (first | refine blk_drewN ?_ _ | refine blk_drew ?_ | refine blk_alloc ?_ _)); exact BK269.out⟩
          have n11_ : Aside0 (Below w.heap.size w (((w51.setCell ⟨gb269, 0, none⟩ (.int .i64 0)).setCell ⟨gb269, 1, none⟩ (.slice none 0 0)).setCell ⟨gb269, 2, none⟩ (.int .i64 0))) := ⟨by repeat (first | (with_reducible first | exact HB.out | apply below_alloc | apply pw_below_drewN | apply below_drew1 | refine below_set ?_ GE232.out | refine below_set ?_ GE244.out | refine below_set ?_ GE252.out | refine below_set ?_ GE260.out | refine below_set ?_ GE268.out | refine below_set ?_ GE269.out) | exact HB.out)⟩
          (try clear HO236)
          (try clear HO241)
          (try clear HO248)
          (try clear HO256)
          (try clear HO264)
          (try clear BK232)
          (try clear BK244)
          (try clear BK252)
          (try clear BK260)
          (try clear BK268)
          (try clear BK269)
          (try clear HB)
          generalize (((w51.setCell ⟨gb269, 0, none⟩ (.int .i64 0)).setCell ⟨gb269, 1, none⟩ (.slice none 0 0)).setCell ⟨gb269, 2, none⟩ (.int .i64 0)) = w66 at n0_ n1_ n2_ n3_ n4_ n5_ n6_ n7_ n8_ n9_ n10_ n11_ ⊢
          have HO236 := n0_
          have HO241 := n1_
          have HO248 := n2_
          have HO256 := n3_
          have HO264 := n4_
          have BK232 := n5_
          have BK244 := n6_
          have BK252 := n7_
          have BK260 := n8_
          have BK268 := n9_
          have BK269 := n10_
          have HB := n11_
          clear n0_ n1_ n2_ n3_ n4_ n5_ n6_ n7_ n8_ n9_ n10_ n11_
          have n0_ := Aside0.mk (Kd.R_drew HO236.out)
          have n1_ := Aside0.mk (Kd.R_drew HO241.out)
          have n2_ := Aside0.mk (Kd.V_drew HO248.out)
          have n3_ := Aside0.mk (Kd.V_drew HO256.out)
          have n4_ := Aside0.mk (Kd.R_drew HO264.out)
          have n5_ := Aside0.mk (blk_drew BK232.out)
          have n6_ := Aside0.mk (blk_drew BK244.out)
          have n7_ := Aside0.mk (blk_drew BK252.out)
          have n8_ := Aside0.mk (blk_drew BK260.out)
          have n9_ := Aside0.mk (blk_drew BK268.out)
          have n10_ := Aside0.mk (blk_drew BK269.out)
          have n11_ := Aside0.mk (below_drew1 HB.out)
          clear HO236
          clear HO241
          clear HO248
          clear HO256
          clear HO264
          clear BK232
          clear BK244
          clear BK252
          clear BK260
          clear BK268
          clear BK269
          clear HB
          have HO236 := n0_
          have HO241 := n1_
          have HO248 := n2_
          have HO256 := n3_
          have HO264 := n4_
          have BK232 := n5_
          have BK244 := n6_
          have BK252 := n7_
          have BK260 := n8_
          have BK268 := n9_
          have BK269 := n10_
          have HB := n11_
          clear n0_ n1_ n2_ n3_ n4_ n5_ n6_ n7_ n8_ n9_ n10_ n11_
          refine start_ (n := 9) (S := fun w' => w'.cell? ⟨gb232, 0, none⟩ = some (.int .i64 t233) ∧ w'.cell? ⟨gb232, 1, none⟩ = some (.slice Ao17 t234.length co17) ∧ w'.cell? ⟨gb232, 2, none⟩ = some (.int .i64 t237)) (ds := []) #[false, false, false, false, false, false, false, false, false] (by kernel_rfl) rfl rfl ⟨(blk_cell BK232.out 0).trans rfl, (blk_cell BK232.out 1).trans rfl, (blk_cell BK232.out 2).trans rfl⟩ (fun hHeld => ?_); refine with_tabW footwaylaw09_QueueTells.tab7 footwaylaw09_QueueTells.bits7 (fun HT_ HW_ => ?_)
          generalize w66.drew = w67 at HO236 HO241 HO248 HO256 HO264 BK232 BK244 BK252 BK260 BK268 BK269 HB hHeld ⊢
          refine take_ (i := 0) (N := some 55) (v := ?_) (a' := ?_) #[true, false, false, false, false, false, false, false, false] rfl rfl (take_ofW HT_.out HW_.out (by kernel_rfl)) (fun _ _ _ h => h) (Or.inl ⟨by rfl, ?_⟩) hHeld ?_ ?_
          rotate_left
          · rintro w' ⟨s0, s1, s2⟩
            go_simp
            with_reducible rfl
          rotate_left
          · simp only [Act.put, List.setIfInBounds_toArray, List.set_cons_zero, List.set_cons_succ, i64_w, i32_w]
            rfl
          refine take_ (i := 2) (N := some 57) (v := ?_) (a' := ?_) #[true, false, true, false, false, false, false, false, false] rfl rfl (take_ofW HT_.out HW_.out (by kernel_rfl)) (fun _ _ _ h => h) (Or.inl ⟨by rfl, ?_⟩) hHeld ?_ ?_
          rotate_left
          · rintro w' ⟨s0, s1, s2⟩
            go_simp
            with_reducible rfl
          rotate_left
          · simp only [Act.put, List.setIfInBounds_toArray, List.set_cons_zero, List.set_cons_succ, i64_w, i32_w]
            rfl
          refine one_ (i := 1) (N := some 56) #[true, true, true, false, false, false, false, false, false] rfl rfl (one_of HT_.out (by kernel_rfl)) (by decide) (fun K hK => ?_)
          refine goes_ Try.func25 (by kernel_rfl) rfl #[.agg #[.int .i64 t233, .slice Ao17 t234.length co17, .int .i64 t237]] (by rfl) rfl rfl (by (try simp only [List.map_toArray, List.map_cons, List.map_nil]); first | done | rfl | (simp only [List.length_drop, List.length_take]; rfl)) ?_
          with_reducible refine (queue_Right.calls t233 _ _ t234 t237 t270 _ ?side1 ?side2 A58.out).mono ?_
          (case side1 => repeat (first | exact (Kd.R_reads' HO236.out).2.2 | (with_reducible refine Kd.C_alloc ?_ _) | (with_reducible refine Kd.C_drewN ?_ _) | (with_reducible refine Kd.C_drew ?_)))
          (case side2 => exact (Kd.R_reads' HO236.out).2.1)
          rintro e w68 ⟨rfl, hb⟩
          refine ⟨_, rfl, ?_⟩
          have n0_ := Aside0.mk (Kd.R_below (by (with_reducible repeat (first | apply Kd.R_alloc | apply Kd.R_drewN | apply Kd.R_drew)); exact HO236.out) hb)
          have n1_ := Aside0.mk (Kd.R_below (by (with_reducible repeat (first | apply Kd.R_alloc | apply Kd.R_drewN | apply Kd.R_drew)); exact HO241.out) hb)
          have n2_ := Aside0.mk (Kd.V_below (by (with_reducible repeat (first | apply Kd.V_alloc | apply Kd.V_drewN | apply Kd.V_drew)); exact HO248.out) hb)
          have n3_ := Aside0.mk (Kd.V_below (by (with_reducible repeat (first | apply Kd.V_alloc | apply Kd.V_drewN | apply Kd.V_drew)); exact HO256.out) hb)
          have n4_ := Aside0.mk (Kd.R_below (by (with_reducible repeat (first | apply Kd.R_alloc | apply Kd.R_drewN | apply Kd.R_drew)); exact HO264.out) hb)
          have n5_ := Aside0.mk (blk_below (g := gb232) (o := .cells #[.int .i64 t233, .slice Ao17 t234.length co17, .int .i64 t237] 35 (0, 0)) (by (with_reducible repeat (first | refine blk_drewN ?_ _ | refine blk_drew ?_ | refine blk_alloc ?_ _)); exact BK232.out) hb)
          have n6_ := Aside0.mk (blk_below (g := gb244) (o := .cells #[.int .i64 t238, .slice Ao24 t239.length co24, .int .i64 t242] 35 (0, 0)) (by (with_reducible repeat (first | refine blk_drewN ?_ _ | refine blk_drew ?_ | refine blk_alloc ?_ _)); exact BK244.out) hb)
          have n7_ := Aside0.mk (blk_below (g := gb252) (o := .cells #[.int .i64 t245, .slice Ao32 t246.length co32, .int .i64 t249] 35 (0, 0)) (by (with_reducible repeat (first | refine blk_drewN ?_ _ | refine blk_drew ?_ | refine blk_alloc ?_ _)); exact BK252.out) hb)
          have n8_ := Aside0.mk (blk_below (g := gb260) (o := .cells #[.int .i64 t253, .slice Ao41 t254.length co41, .int .i64 t257] 35 (0, 0)) (by (with_reducible repeat (first | refine blk_drewN ?_ _ | refine blk_drew ?_ | refine blk_alloc ?_ _)); exact BK260.out) hb)
          have n9_ := Aside0.mk (blk_below (g := gb268) (o := .cells #[.int .i64 t261, .slice Ao50 t262.length co50, .int .i64 t265] 35 (0, 0)) (by (with_reducible repeat (first | refine blk_drewN ?_ _ | refine blk_drew ?_ | refine blk_alloc ?_ _)); exact BK268.out) hb)
          have n10_ := Aside0.mk (blk_below (g := gb269) (o := .cells #[.int .i64 0, .slice none 0 0, .int .i64 0] 35 (0, 0)) (by (with_reducible repeat (first | refine blk_drewN ?_ _ | refine blk_drew ?_ | refine blk_alloc ?_ _)); exact BK269.out) hb)
          have n11_ := Aside0.mk (below_step (by repeat (first | (with_reducible first | exact HB.out | apply below_alloc | apply pw_below_drewN | apply below_drew1 | refine below_set ?_ GE232.out | refine below_set ?_ GE244.out | refine below_set ?_ GE252.out | refine below_set ?_ GE260.out | refine below_set ?_ GE268.out | refine below_set ?_ GE269.out) | exact HB.out)) hb)
          clear HO236
          clear HO241
          clear HO248
          clear HO256
          clear HO264
          clear BK232
          clear BK244
          clear BK252
          clear BK260
          clear BK268
          clear BK269
          clear HB
          have HO236 := n0_
          have HO241 := n1_
          have HO248 := n2_
          have HO256 := n3_
          have HO264 := n4_
          have BK232 := n5_
          have BK244 := n6_
          have BK252 := n7_
          have BK260 := n8_
          have BK268 := n9_
          have BK269 := n10_
          have HB := n11_
          clear n0_ n1_ n2_ n3_ n4_ n5_ n6_ n7_ n8_ n9_ n10_ n11_
          (try clear hb)
          (try clear hb2)
          (try clear hk)
          (try clear hi)
          refine hK.out _ _ ⟨(blk_cell BK232.out 0).trans rfl, (blk_cell BK232.out 1).trans rfl, (blk_cell BK232.out 2).trans rfl⟩ (fun hHeld => ?_)
          clear hK K
          refine norm_ (a' := ?_) ?_ ?_
          rotate_left
          · show Act.put _ (some 56) _ = _
            simp only [Act.put, List.setIfInBounds_toArray, List.set_cons_zero, List.set_cons_succ, i64_w, i32_w]
            rfl
          refine one_ (i := 3) (N := some 58) #[true, true, true, true, false, false, false, false, false] rfl rfl (one_of HT_.out (by kernel_rfl)) (by decide) (fun K hK => ?_)
          refine goes_ Try.func26 (by kernel_rfl) rfl #[.agg #[.int .i64 t233, .slice Ao17 t234.length co17, .int .i64 t237]] (by rfl) rfl rfl (by (try simp only [List.map_toArray, List.map_cons, List.map_nil]); first | done | rfl | (simp only [List.length_drop, List.length_take]; rfl)) ?_
          with_reducible refine (footwayref09_Right.calls k t233 _ _ t234 t237 t271 _ ?side1 ?side2 A59.out).mono ?_
          (case side1 => repeat (first | exact (Kd.R_reads' HO236.out).2.2 | (with_reducible refine Kd.C_alloc ?_ _) | (with_reducible refine Kd.C_drewN ?_ _) | (with_reducible refine Kd.C_drew ?_)))
          (case side2 => exact (Kd.R_reads' HO236.out).2.1)
          rintro e w69 ⟨rfl, hb⟩
          refine ⟨_, rfl, ?_⟩
          have n0_ := Aside0.mk (Kd.R_below (by (with_reducible repeat (first | apply Kd.R_alloc | apply Kd.R_drewN | apply Kd.R_drew)); exact HO236.out) hb)
          have n1_ := Aside0.mk (Kd.R_below (by (with_reducible repeat (first | apply Kd.R_alloc | apply Kd.R_drewN | apply Kd.R_drew)); exact HO241.out) hb)
          have n2_ := Aside0.mk (Kd.V_below (by (with_reducible repeat (first | apply Kd.V_alloc | apply Kd.V_drewN | apply Kd.V_drew)); exact HO248.out) hb)
          have n3_ := Aside0.mk (Kd.V_below (by (with_reducible repeat (first | apply Kd.V_alloc | apply Kd.V_drewN | apply Kd.V_drew)); exact HO256.out) hb)
          have n4_ := Aside0.mk (Kd.R_below (by (with_reducible repeat (first | apply Kd.R_alloc | apply Kd.R_drewN | apply Kd.R_drew)); exact HO264.out) hb)
          have n5_ := Aside0.mk (blk_below (g := gb232) (o := .cells #[.int .i64 t233, .slice Ao17 t234.length co17, .int .i64 t237] 35 (0, 0)) (by (with_reducible repeat (first | refine blk_drewN ?_ _ | refine blk_drew ?_ | refine blk_alloc ?_ _)); exact BK232.out) hb)
          have n6_ := Aside0.mk (blk_below (g := gb244) (o := .cells #[.int .i64 t238, .slice Ao24 t239.length co24, .int .i64 t242] 35 (0, 0)) (by (with_reducible repeat (first | refine blk_drewN ?_ _ | refine blk_drew ?_ | refine blk_alloc ?_ _)); exact BK244.out) hb)
          have n7_ := Aside0.mk (blk_below (g := gb252) (o := .cells #[.int .i64 t245, .slice Ao32 t246.length co32, .int .i64 t249] 35 (0, 0)) (by (with_reducible repeat (first | refine blk_drewN ?_ _ | refine blk_drew ?_ | refine blk_alloc ?_ _)); exact BK252.out) hb)
          have n8_ := Aside0.mk (blk_below (g := gb260) (o := .cells #[.int .i64 t253, .slice Ao41 t254.length co41, .int .i64 t257] 35 (0, 0)) (by (with_reducible repeat (first | refine blk_drewN ?_ _ | refine blk_drew ?_ | refine blk_alloc ?_ _)); exact BK260.out) hb)
          have n9_ := Aside0.mk (blk_below (g := gb268) (o := .cells #[.int .i64 t261, .slice Ao50 t262.length co50, .int .i64 t265] 35 (0, 0)) (by (with_reducible repeat (first | refine blk_drewN ?_ _ | refine blk_drew ?_ | refine blk_alloc ?_ _)); exact BK268.out) hb)
          have n10_ := Aside0.mk (blk_below (g := gb269) (o := .cells #[.int .i64 0, .slice none 0 0, .int .i64 0] 35 (0, 0)) (by (with_reducible repeat (first | refine blk_drewN ?_ _ | refine blk_drew ?_ | refine blk_alloc ?_ _)); exact BK269.out) hb)
          have n11_ := Aside0.mk (below_step (by repeat (first | (with_reducible first | exact HB.out | apply below_alloc | apply pw_below_drewN | apply below_drew1 | refine below_set ?_ GE232.out | refine below_set ?_ GE244.out | refine below_set ?_ GE252.out | refine below_set ?_ GE260.out | refine below_set ?_ GE268.out | refine below_set ?_ GE269.out) | exact HB.out)) hb)
          clear HO236
          clear HO241
          clear HO248
          clear HO256
          clear HO264
          clear BK232
          clear BK244
          clear BK252
          clear BK260
          clear BK268
          clear BK269
          clear HB
          have HO236 := n0_
          have HO241 := n1_
          have HO248 := n2_
          have HO256 := n3_
          have HO264 := n4_
          have BK232 := n5_
          have BK244 := n6_
          have BK252 := n7_
          have BK260 := n8_
          have BK268 := n9_
          have BK269 := n10_
          have HB := n11_
          clear n0_ n1_ n2_ n3_ n4_ n5_ n6_ n7_ n8_ n9_ n10_ n11_
          (try clear hb)
          (try clear hb2)
          (try clear hk)
          (try clear hi)
          refine hK.out _ _ ⟨(blk_cell BK232.out 0).trans rfl, (blk_cell BK232.out 1).trans rfl, (blk_cell BK232.out 2).trans rfl⟩ (fun hHeld => ?_)
          clear hK K
          refine norm_ (a' := ?_) ?_ ?_
          rotate_left
          · show Act.put _ (some 58) _ = _
            simp only [Act.put, List.setIfInBounds_toArray, List.set_cons_zero, List.set_cons_succ, i64_w, i32_w]
            rfl
          refine pure_ (i := 4) (N := some 59) (v := ?_) (a' := ?_) #[true, true, true, true, true, false, false, false, false] rfl rfl (any_of HT_.out (by kernel_rfl)) (fun _ _ _ h => h) (Or.inl ⟨by rfl, ?_⟩) ?_ ?_
          rotate_left
          · intro w'
            go_simp
            with_reducible rfl
          rotate_left
          · simp only [Act.put, List.setIfInBounds_toArray, List.set_cons_zero, List.set_cons_succ, i64_w, i32_w]
            rfl
          refine pure_ (i := 5) (N := some 60) (v := ?_) (a' := ?_) #[true, true, true, true, true, true, false, false, false] rfl rfl (any_of HT_.out (by kernel_rfl)) (fun _ _ _ h => h) (Or.inl ⟨by rfl, ?_⟩) ?_ ?_
          rotate_left
          · intro w'
            go_simp
            with_reducible rfl
          rotate_left
          · simp only [Act.put, List.setIfInBounds_toArray, List.set_cons_zero, List.set_cons_succ, i64_w, i32_w]
            rfl
          refine one_ (i := 6) (N := some 61) #[true, true, true, true, true, true, true, false, false] rfl rfl (one_of HT_.out (by kernel_rfl)) (by decide) (fun K hK => ?_)
          refine goes_ Try.func27 (by kernel_rfl) rfl #[] (by rfl) rfl rfl (by (try simp only [List.map_toArray, List.map_cons, List.map_nil]); first | done | rfl | (simp only [List.length_drop, List.length_take]; rfl)) ?_
          with_reducible refine (footwaylaw09_alive.calls k  t272 _ A65.out).mono ?_
          rintro e w70 ⟨rfl, hb⟩
          refine ⟨_, rfl, ?_⟩
          have n0_ := Aside0.mk (Kd.R_below (by (with_reducible repeat (first | apply Kd.R_alloc | apply Kd.R_drewN | apply Kd.R_drew)); exact HO236.out) hb)
          have n1_ := Aside0.mk (Kd.R_below (by (with_reducible repeat (first | apply Kd.R_alloc | apply Kd.R_drewN | apply Kd.R_drew)); exact HO241.out) hb)
          have n2_ := Aside0.mk (Kd.V_below (by (with_reducible repeat (first | apply Kd.V_alloc | apply Kd.V_drewN | apply Kd.V_drew)); exact HO248.out) hb)
          have n3_ := Aside0.mk (Kd.V_below (by (with_reducible repeat (first | apply Kd.V_alloc | apply Kd.V_drewN | apply Kd.V_drew)); exact HO256.out) hb)
          have n4_ := Aside0.mk (Kd.R_below (by (with_reducible repeat (first | apply Kd.R_alloc | apply Kd.R_drewN | apply Kd.R_drew)); exact HO264.out) hb)
          have n5_ := Aside0.mk (blk_below (g := gb232) (o := .cells #[.int .i64 t233, .slice Ao17 t234.length co17, .int .i64 t237] 35 (0, 0)) (by (with_reducible repeat (first | refine blk_drewN ?_ _ | refine blk_drew ?_ | refine blk_alloc ?_ _)); exact BK232.out) hb)
          have n6_ := Aside0.mk (blk_below (g := gb244) (o := .cells #[.int .i64 t238, .slice Ao24 t239.length co24, .int .i64 t242] 35 (0, 0)) (by (with_reducible repeat (first | refine blk_drewN ?_ _ | refine blk_drew ?_ | refine blk_alloc ?_ _)); exact BK244.out) hb)
          have n7_ := Aside0.mk (blk_below (g := gb252) (o := .cells #[.int .i64 t245, .slice Ao32 t246.length co32, .int .i64 t249] 35 (0, 0)) (by (with_reducible repeat (first | refine blk_drewN ?_ _ | refine blk_drew ?_ | refine blk_alloc ?_ _)); exact BK252.out) hb)
          have n8_ := Aside0.mk (blk_below (g := gb260) (o := .cells #[.int .i64 t253, .slice Ao41 t254.length co41, .int .i64 t257] 35 (0, 0)) (by (with_reducible repeat (first | refine blk_drewN ?_ _ | refine blk_drew ?_ | refine blk_alloc ?_ _)); exact BK260.out) hb)
          have n9_ := Aside0.mk (blk_below (g := gb268) (o := .cells #[.int .i64 t261, .slice Ao50 t262.length co50, .int .i64 t265] 35 (0, 0)) (by (with_reducible repeat (first | refine blk_drewN ?_ _ | refine blk_drew ?_ | refine blk_alloc ?_ _)); exact BK268.out) hb)
          have n10_ := Aside0.mk (blk_below (g := gb269) (o := .cells #[.int .i64 0, .slice none 0 0, .int .i64 0] 35 (0, 0)) (by (with_reducible repeat (first | refine blk_drewN ?_ _ | refine blk_drew ?_ | refine blk_alloc ?_ _)); exact BK269.out) hb)
          have n11_ := Aside0.mk (below_step (by repeat (first | (with_reducible first | exact HB.out | apply below_alloc | apply pw_below_drewN | apply below_drew1 | refine below_set ?_ GE232.out | refine below_set ?_ GE244.out | refine below_set ?_ GE252.out | refine below_set ?_ GE260.out | refine below_set ?_ GE268.out | refine below_set ?_ GE269.out) | exact HB.out)) hb)
          clear HO236
          clear HO241
          clear HO248
          clear HO256
          clear HO264
          clear BK232
          clear BK244
          clear BK252
          clear BK260
          clear BK268
          clear BK269
          clear HB
          have HO236 := n0_
          have HO241 := n1_
          have HO248 := n2_
          have HO256 := n3_
          have HO264 := n4_
          have BK232 := n5_
          have BK244 := n6_
          have BK252 := n7_
          have BK260 := n8_
          have BK268 := n9_
          have BK269 := n10_
          have HB := n11_
          clear n0_ n1_ n2_ n3_ n4_ n5_ n6_ n7_ n8_ n9_ n10_ n11_
          (try clear hb)
          (try clear hb2)
          (try clear hk)
          (try clear hi)
          refine hK.out _ _ ⟨(blk_cell BK232.out 0).trans rfl, (blk_cell BK232.out 1).trans rfl, (blk_cell BK232.out 2).trans rfl⟩ (fun hHeld => ?_)
          clear hK K
          refine norm_ (a' := ?_) ?_ ?_
          rotate_left
          · show Act.put _ (some 61) _ = _
            simp only [Act.put, List.setIfInBounds_toArray, List.set_cons_zero, List.set_cons_succ, i64_w, i32_w]
            rfl
          refine pure_ (i := 7) (N := some 62) (v := ?_) (a' := ?_) #[true, true, true, true, true, true, true, true, false] rfl rfl (any_of HT_.out (by kernel_rfl)) (fun _ _ _ h => h) (Or.inl ⟨by rfl, ?_⟩) ?_ ?_
          rotate_left
          · intro w'
            go_simp
            with_reducible rfl
          rotate_left
          · simp only [Act.put, List.setIfInBounds_toArray, List.set_cons_zero, List.set_cons_succ, i64_w, i32_w]
            rfl
          refine pure_ (i := 8) (N := some 63) (v := ?_) (a' := ?_) #[true, true, true, true, true, true, true, true, true] rfl rfl (any_of HT_.out (by kernel_rfl)) (fun _ _ _ h => h) (Or.inl ⟨by rfl, ?_⟩) ?_ ?_
          rotate_left
          · intro w'
            go_simp
            with_reducible rfl
          rotate_left
          · simp only [Act.put, List.setIfInBounds_toArray, List.set_cons_zero, List.set_cons_succ, i64_w, i32_w]
            rfl
          refine done_ (done_of HT_.out (by kernel_rfl)) ?_
          try go_wp2
          go_meet
          case rel => exact ⟨_, (!t272), (by first | rfl | (simp; done) | (simp [*]; done)), H', ⟨by first | omega | exact Nat.le_refl _⟩, ⟨by (with_reducible repeat (first | apply Kd.R_alloc | apply Kd.R_drewN | apply Kd.R_drew)); exact HO236.out⟩, ⟨by (with_reducible repeat (first | apply Kd.R_alloc | apply Kd.R_drewN | apply Kd.R_drew)); exact HO241.out⟩, ⟨by (with_reducible repeat (first | apply Kd.V_alloc | apply Kd.V_drewN | apply Kd.V_drew)); exact HO248.out⟩, ⟨by (with_reducible repeat (first | apply Kd.V_alloc | apply Kd.V_drewN | apply Kd.V_drew)); exact HO256.out⟩, ⟨by (with_reducible repeat (first | apply Kd.R_alloc | apply Kd.R_drewN | apply Kd.R_drew)); exact HO264.out⟩, ⟨by (with_reducible repeat (first | refine blk_drewN ?_ _ | refine blk_drew ?_ | refine blk_alloc ?_ _)); exact BK232.out⟩, ⟨by (with_reducible repeat (first | refine blk_drewN ?_ _ | refine blk_drew ?_ | refine blk_alloc ?_ _)); exact BK244.out⟩, ⟨by (with_reducible repeat (first | refine blk_drewN ?_ _ | refine blk_drew ?_ | refine blk_alloc ?_ _)); exact BK252.out⟩, ⟨by (with_reducible repeat (first | refine blk_drewN ?_ _ | refine blk_drew ?_ | refine blk_alloc ?_ _)); exact BK260.out⟩, ⟨by (with_reducible repeat (first | refine blk_drewN ?_ _ | refine blk_drew ?_ | refine blk_alloc ?_ _)); exact BK268.out⟩, ⟨by (with_reducible repeat (first | refine blk_drewN ?_ _ | refine blk_drew ?_ | refine blk_alloc ?_ _)); exact BK269.out⟩, ⟨by repeat (first | (with_reducible first | exact HB.out | apply below_alloc | apply pw_below_drewN | apply below_drew1 | refine below_set ?_ GE232.out | refine below_set ?_ GE244.out | refine below_set ?_ GE252.out | refine below_set ?_ GE260.out | refine below_set ?_ GE268.out | refine below_set ?_ GE269.out) | exact HB.out)⟩⟩
      case rest =>
        clear HC12
        try clear c1
        try clear c2
        try clear p2
        try clear c3
        try clear c4
        try clear c5
        try clear c6
        try clear c21
        try clear c22
        try clear c23
        try clear c24
        try clear c25
        try clear c26
        try clear c27
        try clear c29
        try clear c30
        try clear c37
        try clear c38
        try clear c39
        try clear c45
        try clear c46
        try clear c47
        try clear c48
        try clear c52
        try clear c53
        try clear c54
        try clear c55
        try clear c56
        try clear c60
        try clear c60b0
        try clear c60b1
        try clear c60b2
        try clear hcz23_0
        try clear hcz23_1
        try clear hcz23_2
        try clear hcz26_0
        try clear hcz26_1
        try clear hcz26_2
        try clear hcz31_0
        try clear hcz31_1
        try clear hcz31_2
        try clear hcz34_0
        try clear hcz34_1
        try clear hcz34_2
        try clear hcz40_0
        try clear hcz40_1
        try clear hcz40_2
        try clear hcz42_0
        try clear hcz42_1
        try clear hcz42_2
        try clear hcz49_0
        try clear hcz49_1
        try clear hcz49_2
        try clear hcz57_0
        try clear hcz57_1
        try clear hcz57_2
        try clear hfz23_0
        try clear hfz23_1
        try clear hfz23_2
        try clear hfz26_0
        try clear hfz26_1
        try clear hfz26_2
        try clear hfz31_0
        try clear hfz31_1
        try clear hfz31_2
        try clear hfz34_0
        try clear hfz34_1
        try clear hfz34_2
        try clear hfz40_0
        try clear hfz40_1
        try clear hfz40_2
        try clear hfz42_0
        try clear hfz42_1
        try clear hfz42_2
        try clear hfz49_0
        try clear hfz49_1
        try clear hfz49_2
        try clear hfz57_0
        try clear hfz57_1
        try clear hfz57_2
        obtain ⟨kq, x63_11, rfl, HA, HJ11, HO_233001, HO_245001, HO_253001, HO_261001, HO_269001, BK232, BK244, BK252, BK260, BK268, BK269, HB⟩ := hcut
        rename_i K1 hK1 K0 hK0
        exact footwaylaw09_QueueTells.partB k a0 a1_0 A1_1 c1_1 l1_1 a1_2 a2 r w hu35 HR1_1 HC1_1 t233 t234 t237 A4 ji5 hji5 hji5h hji5l hji5m hji5_ c6b0 c6b1 c7b0 c7b1 t238 t239 t242 t243 A8 t245 t246 t249 t250 t251 A9 t253 t254 t257 t258 t259 A10 t261 t262 t265 t266 t267 A11 gb232 w13 GW232 GE232 w14 w15 Ao17 co17 hs16 hfs16 hs18 hfs18 hs19 hfs19 w20 gb244 w21 GW244 GE244 NB232_244 NB244_232 hnb22 hnc22 Ao24 co24 w25 w27 gb252 w28 GW252 GE252 NB232_252 NB252_232 NB244_252 NB252_244 hnb29 hnc29 hnb30 hnc30 Ao32 co32 w33 w35 gb260 w36 GW260 GE260 NB232_260 NB260_232 NB244_260 NB260_244 NB252_260 NB260_252 hnb37 hnc37 hnb38 hnc38 hnb39 hnc39 Ao41 co41 w43 gb268 w44 GW268 GE268 NB232_268 NB268_232 NB244_268 NB268_244 NB252_268 NB268_252 NB260_268 NB268_260 hnb45 hnc45 hnb46 hnc46 hnb47 hnc47 hnb48 hnc48 Ao50 co50 gb269 w51 HO236 HO241 HO248 HO256 HO264 GW269 GE269 NB232_269 NB269_232 NB244_269 NB269_244 NB252_269 NB269_252 NB260_269 NB269_260 NB268_269 NB269_268 hnb52 hnc52 hnb53 hnc53 hnb54 hnc54 hnb55 hnc55 hnb56 hnc56 K1 hK1 K0 hK0 wc u23 u24 u25 u26 u27 u28 u29 u30 u31 u32 u33 u34 u35 u36 u37 u38 u39 u40 u41 u42 u43 u44 u45 u46 u47 u48 u49 u50 u51 u52 u53 u54 u55 u56 u57 u58 u59 u60 u61 u62 u64 u65 u66 u67 u68 u69 u70 u71 u72 u73 u74 u75 u76 u77 u78 u79 u80 u81 u82 u83 u84 u85 u86 u87 u88 u89 u90 u91 u92 u93 u94 u95 u96 u97 u98 u99 u100 u101 u102 u103 u104 u105 u106 u107 u108 u109 u110 u111 u112 u113 u114 u115 u116 u117 u118 u119 u120 u121 u122 u123 u124 u125 u126 u127 u128 u129 u130 u131 u132 u133 u134 u135 u136 u137 u138 u139 u140 u141 u142 u143 u144 u145 u146 u147 u148 u149 u150 u151 u152 u153 u154 u155 u156 u157 u158 u159 u160 u161 u162 u163 u164 u165 u166 u167 u168 u169 u170 u171 u172 u173 u174 u175 u176 u177 u178 u179 u180 u181 u182 u183 u184 u185 u186 u187 u188 u189 u190 u191 u192 u193 u194 u195 u196 u197 u198 u199 u200 u201 u202 u203 u204 u205 u206 u207 u208 u209 u210 u211 u212 u213 u214 u215 kq x63_11 HA HJ11 HO_233001 HO_245001 HO_253001 HO_261001 HO_269001 BK232 BK244 BK252 BK260 BK268 BK269 HB
    · rw [if_neg c7] at H
      exact absurd H (by simp)
  · rw [if_neg c6] at H
    exact absurd H (by simp)

end Go.Proofs.Ytnkkedkkjmehpaa.PQu

