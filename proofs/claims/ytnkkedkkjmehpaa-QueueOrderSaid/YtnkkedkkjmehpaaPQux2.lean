-- Laid by a program of this session out of the translation; Lean checks it.
import Derived.Test.YtnkkedkkjmehpaaPQux0
import Derived.Test.YtnkkedkkjmehpaaPQux1
import Derived.Test.YtnkkedkkjmehpaaEQu
namespace Go.Proofs.Ytnkkedkkjmehpaa.PQu
open Go.RowKit Go.Proofs.Ytnkkedkkjmehpaa.EQu Go.Proofs.YtnkkedkkjmehpaaW.PrintWords Go.Proofs.YtnkkedkkjmehpaaW.PrintLast Go.Proofs.YtnkkedkkjmehpaaW.PrintMore
attribute [local go_sem] max2_int min2_int max_two min_two max_three min_three max_four min_four   -- for this text's walks alone
set_option linter.unusedVariables false
set_option linter.unusedSimpArgs false

/-! ### footwaylaw09_QueueOrder: function 6 -/
mutual
def footwaylaw09_QueueOrder.l0 : Nat → Int → List ByteArray → Int → List Int → Int → Int → Int → List ByteArray → Int → Option (Bool)
  | 0, _, _, _, _, _, _, _, _, _ => none
  | k + 1, x0, x7, x8, x37, x38, x39, x162000, x162001, x162002 => if x39 < x38 then (if 0 ≤ x39 then (if x39 < (x37.length : Int) then (if (Int.tmod (wrap64 ((Int.tmod (rd x37 x39) 8) + 8)) 8) = 0 then ((queue_Clear.f x162000 x162001 x162002).bind fun bt168 => (if bt168.2.2.2.2 = 0 then (if bt168.2.2.2.1 = (x7.length : Int) then (footwaylaw09_QueueOrder.j3 k x0 ([] : List ByteArray) (wrap64 (x8 + bt168.2.2.2.1)) x37 x38 x39 bt168.1 bt168.2.1 bt168.2.2.1) else (some false)) else (some false))) else (if (Int.tmod (wrap64 ((Int.tmod (rd x37 x39) 8) + 8)) 8) = 1 then (footwaylaw09_QueueOrder.j1 k x0 x7 x8 x39 (rd x37 x39) x37 x38 x39 ((Int.tmod (wrap64 ((Int.tmod (rd x37 x39) 8) + 8)) 8) == 1) x162000 x162001 x162002) else (if (Int.tmod (wrap64 ((Int.tmod (rd x37 x39) 8) + 8)) 8) = 2 then (footwaylaw09_QueueOrder.j1 k x0 x7 x8 x39 (rd x37 x39) x37 x38 x39 ((Int.tmod (wrap64 ((Int.tmod (rd x37 x39) 8) + 8)) 8) == 2) x162000 x162001 x162002) else (footwaylaw09_QueueOrder.j1 k x0 x7 x8 x39 (rd x37 x39) x37 x38 x39 ((Int.tmod (wrap64 ((Int.tmod (rd x37 x39) 8) + 8)) 8) == 3) x162000 x162001 x162002)))) else (none)) else (none)) else ((footwaylaw09_alive.f k).bind fun t166 => (some t166))
def footwaylaw09_QueueOrder.j3 : Nat → Int → List ByteArray → Int → List Int → Int → Int → Int → List ByteArray → Int → Option (Bool)
  | 0, _, _, _, _, _, _, _, _, _ => none
  | k + 1, x0, x7, x8, x37, x38, x39, x162000, x162001, x162002 => (footwayref09_Rows.f k x162001 x7).bind fun t202 => (if t202 = true then (if x162002 = x8 then (if x162000 = x0 then ((queue_Right.f x162000 x162001 x162002).bind fun t203 => (if t203 = true then (footwaylaw09_QueueOrder.l0 k x0 x7 x8 x37 x38 (wrap64 (x39 + 1)) x162000 x162001 x162002) else (some false))) else (some false)) else (some false)) else (some false))
def footwaylaw09_QueueOrder.j1 : Nat → Int → List ByteArray → Int → Int → Int → List Int → Int → Int → Bool → Int → List ByteArray → Int → Option (Bool)
  | 0, _, _, _, _, _, _, _, _, _, _, _, _ => none
  | k + 1, x0, x7, x8, x9, x10, x37, x38, x39, x99, x162000, x162001, x162002 => if x99 = true then ((queue_Pop.f x162000 x162001 x162002).bind fun bt176 => (if (x7.length : Int) = 0 then (if bt176.2.2.2.2 = 4 then (footwaylaw09_QueueOrder.l0 k x0 x7 x8 x37 x38 (wrap64 (x39 + 1)) x162000 x162001 x162002) else (some false)) else (if bt176.2.2.2.2 = 0 then (if 0 < (x7.length : Int) then (if bt176.2.2.2.1.toList = (rdOf ByteArray.empty x7 0).toList then (if 1 ≤ (x7.length : Int) then (footwaylaw09_QueueOrder.j3 k x0 (x7.drop (1 : Int).toNat) x8 x37 x38 x39 bt176.1 bt176.2.1 bt176.2.2.1) else (none)) else (some false)) else (none)) else (some false)))) else ((some (([(x9) % 256, (x10) % 256] : List Int) : List Int)).bind fun y188 => ((queue_Push.f k x162000 x162001 x162002 (strOfNums y188)).bind fun bt191 => (if bt191.2.2.2.2 = 0 then (footwaylaw09_QueueOrder.j2 k x0 x7 x8 (strOfNums y188) bt191.2.2.2.1 x37 x38 x39 (bt191.2.2.2.1 != (decide ((x7.length : Int) < x0))) bt191.1 bt191.2.1 bt191.2.2.1) else (footwaylaw09_QueueOrder.j2 k x0 x7 x8 (strOfNums y188) bt191.2.2.2.1 x37 x38 x39 true bt191.1 bt191.2.1 bt191.2.2.1))))
def footwaylaw09_QueueOrder.j2 : Nat → Int → List ByteArray → Int → ByteArray → Bool → List Int → Int → Int → Bool → Int → List ByteArray → Int → Option (Bool)
  | 0, _, _, _, _, _, _, _, _, _, _, _, _ => none
  | k + 1, x0, x7, x8, x17, x19, x37, x38, x39, x70, x199000, x199001, x199002 => if x70 = true then (some false) else (if x19 = true then (if x7.length < 8796093022208 then (footwaylaw09_QueueOrder.j3 k x0 (x7 ++ [x17]) x8 x37 x38 x39 x199000 x199001 x199002) else (none)) else (footwaylaw09_QueueOrder.j3 k x0 x7 (wrap64 (x8 + 1)) x37 x38 x39 x199000 x199001 x199002))
end
def footwaylaw09_QueueOrder.f (k : Nat) (a0 : Int) (l1 : List Int) : Option (Bool) := (queue_New.f (wrap64 (1 + (Int.tmod (wrap64 ((Int.tmod a0 8) + 8)) 8)))).bind fun bt155 => (if bt155.2.2.2 = 0 then (if 0 ≤ (mn (l1.length : Int) 150) then (if (mn (l1.length : Int) 150) ≤ (l1.length : Int) then ((some (l1.take ((mn (l1.length : Int) 150) : Int).toNat : List Int)).bind fun y162 => (footwaylaw09_QueueOrder.l0 k (wrap64 (1 + (Int.tmod (wrap64 ((Int.tmod a0 8) + 8)) 8))) ([] : List ByteArray) 0 y162 (y162.length : Int) 0 bt155.1 bt155.2.1 bt155.2.2.1)) else (none)) else (none)) else (some false))
theorem footwaylaw09_QueueOrder.mono_l : ∀ k, (∀ y0 y1 y2 y3 y4 y5 y6 y7 y8, LeO (footwaylaw09_QueueOrder.l0 k y0 y1 y2 y3 y4 y5 y6 y7 y8) (footwaylaw09_QueueOrder.l0 (k + 1) y0 y1 y2 y3 y4 y5 y6 y7 y8)) ∧ (∀ y0 y1 y2 y3 y4 y5 y6 y7 y8, LeO (footwaylaw09_QueueOrder.j3 k y0 y1 y2 y3 y4 y5 y6 y7 y8) (footwaylaw09_QueueOrder.j3 (k + 1) y0 y1 y2 y3 y4 y5 y6 y7 y8)) ∧ (∀ y0 y1 y2 y3 y4 y5 y6 y7 y8 y9 y10 y11, LeO (footwaylaw09_QueueOrder.j1 k y0 y1 y2 y3 y4 y5 y6 y7 y8 y9 y10 y11) (footwaylaw09_QueueOrder.j1 (k + 1) y0 y1 y2 y3 y4 y5 y6 y7 y8 y9 y10 y11)) ∧ (∀ y0 y1 y2 y3 y4 y5 y6 y7 y8 y9 y10 y11, LeO (footwaylaw09_QueueOrder.j2 k y0 y1 y2 y3 y4 y5 y6 y7 y8 y9 y10 y11) (footwaylaw09_QueueOrder.j2 (k + 1) y0 y1 y2 y3 y4 y5 y6 y7 y8 y9 y10 y11))
  | 0 => ⟨fun _ _ _ _ _ _ _ _ _ r h => by simp [footwaylaw09_QueueOrder.l0] at h, fun _ _ _ _ _ _ _ _ _ r h => by simp [footwaylaw09_QueueOrder.j3] at h, fun _ _ _ _ _ _ _ _ _ _ _ _ r h => by simp [footwaylaw09_QueueOrder.j1] at h, fun _ _ _ _ _ _ _ _ _ _ _ _ r h => by simp [footwaylaw09_QueueOrder.j2] at h⟩
  | k + 1 => by
    obtain ⟨ih0, ih1, ih2, ih3⟩ := footwaylaw09_QueueOrder.mono_l k
    refine ⟨?_, ?_, ?_, ?_⟩
    · intro y0 y1 y2 y3 y4 y5 y6 y7 y8
      unfold footwaylaw09_QueueOrder.l0
      repeat' first
      | (with_reducible exact ih0 _ _ _ _ _ _ _ _ _)
      | (with_reducible exact ih1 _ _ _ _ _ _ _ _ _)
      | (with_reducible exact ih2 _ _ _ _ _ _ _ _ _ _ _ _)
      | (with_reducible exact ih3 _ _ _ _ _ _ _ _ _ _ _ _)
      | (with_reducible exact footwaylaw09_alive.mono _)
      | (with_reducible exact footwayref09_Rows.mono _ _ _)
      | (with_reducible exact queue_Push.mono _ _ _ _ _)
      | (with_reducible exact LeO.refl _)
      | (with_reducible exact LeO.none _)
      | (with_reducible refine LeO.ite ?_ ?_)
      | (with_reducible refine LeO.bind ?_ (fun _ => ?_))
      | exact ih0 _ _ _ _ _ _ _ _ _
      | exact ih1 _ _ _ _ _ _ _ _ _
      | exact ih2 _ _ _ _ _ _ _ _ _ _ _ _
      | exact ih3 _ _ _ _ _ _ _ _ _ _ _ _
      | exact footwaylaw09_alive.mono _
      | exact footwayref09_Rows.mono _ _ _
      | exact queue_Push.mono _ _ _ _ _
      | exact LeO.none _
      | refine LeO.ite ?_ ?_
      | refine LeO.bind ?_ (fun _ => ?_)
    · intro y0 y1 y2 y3 y4 y5 y6 y7 y8
      unfold footwaylaw09_QueueOrder.j3
      repeat' first
      | (with_reducible exact ih0 _ _ _ _ _ _ _ _ _)
      | (with_reducible exact ih1 _ _ _ _ _ _ _ _ _)
      | (with_reducible exact ih2 _ _ _ _ _ _ _ _ _ _ _ _)
      | (with_reducible exact ih3 _ _ _ _ _ _ _ _ _ _ _ _)
      | (with_reducible exact footwaylaw09_alive.mono _)
      | (with_reducible exact footwayref09_Rows.mono _ _ _)
      | (with_reducible exact queue_Push.mono _ _ _ _ _)
      | (with_reducible exact LeO.refl _)
      | (with_reducible exact LeO.none _)
      | (with_reducible refine LeO.ite ?_ ?_)
      | (with_reducible refine LeO.bind ?_ (fun _ => ?_))
      | exact ih0 _ _ _ _ _ _ _ _ _
      | exact ih1 _ _ _ _ _ _ _ _ _
      | exact ih2 _ _ _ _ _ _ _ _ _ _ _ _
      | exact ih3 _ _ _ _ _ _ _ _ _ _ _ _
      | exact footwaylaw09_alive.mono _
      | exact footwayref09_Rows.mono _ _ _
      | exact queue_Push.mono _ _ _ _ _
      | exact LeO.none _
      | refine LeO.ite ?_ ?_
      | refine LeO.bind ?_ (fun _ => ?_)
    · intro y0 y1 y2 y3 y4 y5 y6 y7 y8 y9 y10 y11
      unfold footwaylaw09_QueueOrder.j1
      repeat' first
      | (with_reducible exact ih0 _ _ _ _ _ _ _ _ _)
      | (with_reducible exact ih1 _ _ _ _ _ _ _ _ _)
      | (with_reducible exact ih2 _ _ _ _ _ _ _ _ _ _ _ _)
      | (with_reducible exact ih3 _ _ _ _ _ _ _ _ _ _ _ _)
      | (with_reducible exact footwaylaw09_alive.mono _)
      | (with_reducible exact footwayref09_Rows.mono _ _ _)
      | (with_reducible exact queue_Push.mono _ _ _ _ _)
      | (with_reducible exact LeO.refl _)
      | (with_reducible exact LeO.none _)
      | (with_reducible refine LeO.ite ?_ ?_)
      | (with_reducible refine LeO.bind ?_ (fun _ => ?_))
      | exact ih0 _ _ _ _ _ _ _ _ _
      | exact ih1 _ _ _ _ _ _ _ _ _
      | exact ih2 _ _ _ _ _ _ _ _ _ _ _ _
      | exact ih3 _ _ _ _ _ _ _ _ _ _ _ _
      | exact footwaylaw09_alive.mono _
      | exact footwayref09_Rows.mono _ _ _
      | exact queue_Push.mono _ _ _ _ _
      | exact LeO.none _
      | refine LeO.ite ?_ ?_
      | refine LeO.bind ?_ (fun _ => ?_)
    · intro y0 y1 y2 y3 y4 y5 y6 y7 y8 y9 y10 y11
      unfold footwaylaw09_QueueOrder.j2
      repeat' first
      | (with_reducible exact ih0 _ _ _ _ _ _ _ _ _)
      | (with_reducible exact ih1 _ _ _ _ _ _ _ _ _)
      | (with_reducible exact ih2 _ _ _ _ _ _ _ _ _ _ _ _)
      | (with_reducible exact ih3 _ _ _ _ _ _ _ _ _ _ _ _)
      | (with_reducible exact footwaylaw09_alive.mono _)
      | (with_reducible exact footwayref09_Rows.mono _ _ _)
      | (with_reducible exact queue_Push.mono _ _ _ _ _)
      | (with_reducible exact LeO.refl _)
      | (with_reducible exact LeO.none _)
      | (with_reducible refine LeO.ite ?_ ?_)
      | (with_reducible refine LeO.bind ?_ (fun _ => ?_))
      | exact ih0 _ _ _ _ _ _ _ _ _
      | exact ih1 _ _ _ _ _ _ _ _ _
      | exact ih2 _ _ _ _ _ _ _ _ _ _ _ _
      | exact ih3 _ _ _ _ _ _ _ _ _ _ _ _
      | exact footwaylaw09_alive.mono _
      | exact footwayref09_Rows.mono _ _ _
      | exact queue_Push.mono _ _ _ _ _
      | exact LeO.none _
      | refine LeO.ite ?_ ?_
      | refine LeO.bind ?_ (fun _ => ?_)
theorem footwaylaw09_QueueOrder.mono : ∀ a0 a1 k, LeO (footwaylaw09_QueueOrder.f k a0 a1) (footwaylaw09_QueueOrder.f (k + 1) a0 a1) := by
  intro a0 a1 k
  obtain ⟨ih0, ih1, ih2, ih3⟩ := footwaylaw09_QueueOrder.mono_l k
  unfold footwaylaw09_QueueOrder.f
  repeat' first
      | (with_reducible exact ih0 _ _ _ _ _ _ _ _ _)
      | (with_reducible exact ih1 _ _ _ _ _ _ _ _ _)
      | (with_reducible exact ih2 _ _ _ _ _ _ _ _ _ _ _ _)
      | (with_reducible exact ih3 _ _ _ _ _ _ _ _ _ _ _ _)
      | (with_reducible exact footwaylaw09_alive.mono _)
      | (with_reducible exact footwayref09_Rows.mono _ _ _)
      | (with_reducible exact queue_Push.mono _ _ _ _ _)
      | (with_reducible exact LeO.refl _)
      | (with_reducible exact LeO.none _)
      | (with_reducible refine LeO.ite ?_ ?_)
      | (with_reducible refine LeO.bind ?_ (fun _ => ?_))
      | exact ih0 _ _ _ _ _ _ _ _ _
      | exact ih1 _ _ _ _ _ _ _ _ _
      | exact ih2 _ _ _ _ _ _ _ _ _ _ _ _
      | exact ih3 _ _ _ _ _ _ _ _ _ _ _ _
      | exact footwaylaw09_alive.mono _
      | exact footwayref09_Rows.mono _ _ _
      | exact queue_Push.mono _ _ _ _ _
      | exact LeO.none _
      | refine LeO.ite ?_ ?_
      | refine LeO.bind ?_ (fun _ => ?_)
set_option maxHeartbeats 8000000 in
set_option maxRecDepth 100000 in
theorem footwaylaw09_QueueOrder.calls (k : Nat) (a0 : Int) (A1 : Option Addr) (c1 : Nat) (l1 : List Int) (r : Bool) (w : World) (hr1 : Kd.C (Kd.int .i64) w A1 l1.length l1) (hc1 : l1.length ≤ c1) (h : footwaylaw09_QueueOrder.f k a0 l1 = some r) :
    Calls Try.prog 6 #[.int .i64 a0, .slice A1 l1.length c1] w fun e w' => e = .returned (.bool r) ∧ Below w.heap.size w w' := by
  have hu35 := Try.underlying35
  have HR1 := Aside0.mk hr1
  have HC1 := Aside0.mk hc1
  clear hr1 hc1
  have HB := Aside0.mk (Below.refl w.heap.size w)
  have H : ((queue_New.f (wrap64 (1 + (Int.tmod (wrap64 ((Int.tmod a0 8) + 8)) 8)))).bind fun bt155 => (if bt155.2.2.2 = 0 then (if 0 ≤ (mn (l1.length : Int) 150) then (if (mn (l1.length : Int) 150) ≤ (l1.length : Int) then ((some (l1.take ((mn (l1.length : Int) 150) : Int).toNat : List Int)).bind fun y162 => (footwaylaw09_QueueOrder.l0 k (wrap64 (1 + (Int.tmod (wrap64 ((Int.tmod a0 8) + 8)) 8))) ([] : List ByteArray) 0 y162 (y162.length : Int) 0 bt155.1 bt155.2.1 bt155.2.2.1)) else (none)) else (none)) else (some false))) = some r := h
  clear h
  replace H := Option.bind_eq_some_iff.mp H
  obtain ⟨⟨t155, t156, t159, t160⟩, A30, H⟩ := H
  replace H : (if t160 = 0 then (if 0 ≤ (mn (l1.length : Int) 150) then (if (mn (l1.length : Int) 150) ≤ (l1.length : Int) then ((some (l1.take ((mn (l1.length : Int) 150) : Int).toNat : List Int)).bind fun y162 => (footwaylaw09_QueueOrder.l0 k (wrap64 (1 + (Int.tmod (wrap64 ((Int.tmod a0 8) + 8)) 8))) ([] : List ByteArray) 0 y162 (y162.length : Int) 0 t155 t156 t159)) else (none)) else (none)) else (some false)) = some r := H
  have A3 := Aside0.mk A30
  clear A30
  by_cases c4 : t160 = 0
  · rw [if_pos c4] at H
    have c4b0 : (t160 == 0) = true := beq_iff_eq.mpr c4
    have c4b1 : (t160 != 0) = false := bne_eq_false_iff_eq.mpr c4
    clear c4
    obtain ⟨ji5, hji5⟩ : ∃ j_ : Int, (mn (l1.length : Int) 150) = j_ := ⟨_, rfl⟩
    replace H : (if 0 ≤ (ji5) then (if (ji5) ≤ (l1.length : Int) then ((some (l1.take ((ji5) : Int).toNat : List Int)).bind fun y162 => (footwaylaw09_QueueOrder.l0 k (wrap64 (1 + (Int.tmod (wrap64 ((Int.tmod a0 8) + 8)) 8))) ([] : List ByteArray) 0 y162 (y162.length : Int) 0 t155 t156 t159)) else (none)) else (none)) = some r := by first | (rw [hji5] at H; exact H) | (simp only [hji5] at H ⊢; exact H)
    (try rw [hji5] at A3)
    (try (have hji5h : ji5 ≤ 150 := by (rw [← hji5]; unfold mn; (repeat' split) <;> omega)))
    (try (have hji5g : ji5 ≤ 64 := by omega))
    (try (have hji5l : 0 ≤ ji5 := by (rw [← hji5]; unfold mn; (repeat' split) <;> omega)))
    (try (have hji5m : 0 ≤ ji5 := by omega))
    have hji5_ : (if 150 < (l1.length : Int) then 150 else (l1.length : Int)) = ji5 := hji5
    by_cases c6 : 0 ≤ (ji5)
    · rw [if_pos c6] at H
      have c6b0 := eq_true c6
      have c6b1 : decide (0 ≤ (ji5)) = true := decide_eq_true c6
      clear c6
      by_cases c7 : (ji5) ≤ (l1.length : Int)
      · rw [if_pos c7] at H
        have c7b0 := eq_true c7
        have c7b1 : decide ((ji5) ≤ (l1.length : Int)) = true := decide_eq_true c7
        clear c7
        obtain ⟨y162, hy162⟩ : ∃ y_ : List Int, y_ = (l1.take ((ji5) : Int).toNat) := ⟨_, rfl⟩
        replace H : (footwaylaw09_QueueOrder.l0 k (wrap64 (1 + (Int.tmod (wrap64 ((Int.tmod a0 8) + 8)) 8))) ([] : List ByteArray) 0 y162 (y162.length : Int) 0 t155 t156 t159) = some r := by first | (rw [hy162]; with_reducible exact H) | (have H2_ := (Option.bind_some _ _).symm.trans H; rw [hy162]; with_reducible exact H2_) | (have H2_ := (Option.bind_some _ _).symm.trans H; with_reducible exact H2_) | with_reducible exact H | (rw [hy162]; exact H) | exact H
        have Ny162 := Aside0.mk hy162
        clear hy162
        have H' := Aside0.mk H
        clear H
        go_enter Try.func6, Try.ntmps6
        go_wp2_with (first | ((with_reducible refine gate_callee (f := 21) rfl ?_); refine goesL_ (some 28) rfl rfl Try.func21 (by kernel_rfl) rfl #[.int .i64 (wrap64 (1 + (Int.tmod (wrap64 ((Int.tmod a0 8) + 8)) 8)))] rfl (by (try simp only [List.map_toArray, List.map_cons, List.map_nil]); first | done | rfl | (simp only [List.length_drop, List.length_take]; rfl)) ?_; (with_reducible refine (queue_New.calls (wrap64 (1 + (Int.tmod (wrap64 ((Int.tmod a0 8) + 8)) 8))) t155 t156 t159 t160 _ A3.out).mono ?_); rintro e w8 ⟨v157, rfl, ho0, hb⟩; refine ⟨_, rfl, ?_⟩; have n0_ := Aside0.mk (Kd.R_lower ho0 (below_size (by repeat (first | (with_reducible first | exact HB.out | apply below_alloc | apply pw_below_drewN | apply below_drew1) | exact HB.out)))); have n1_ := Aside0.mk (below_step (by repeat (first | (with_reducible first | exact HB.out | apply below_alloc | apply pw_below_drewN | apply below_drew1) | exact HB.out)) hb); clear HB; have HO158 := n0_; have HB := n1_; clear n0_ n1_; (try clear hb); (try clear hb2); (try clear hk); (try clear hi); (try clear ho0)) | ((with_reducible refine gate_dst (N := 5) rfl ?_); (try (refine gate_guard (by rfl) ?_; dsimp only)); refine box_event ?hg (N := 5) ?hd (cs := #[.int .i64 0, .slice none 0 0, .int .i64 0]) (t := 35) ?hr ?_; (case hd => rfl); (case hg => rfl); (case hr => first | (go_simp; done) | (go_simp; rfl)); intro gb161 hg w9 hbox hb; have n0_ := Aside0.mk (Kd.R_below (by (with_reducible repeat (first | apply Kd.R_alloc | apply Kd.R_drewN | apply Kd.R_drew)); exact HO158.out) hb); have n1_ := Aside0.mk (below_step (by repeat (first | (with_reducible first | exact HB.out | apply below_alloc | apply pw_below_drewN | apply below_drew1) | exact HB.out)) hb); have n2_ := Aside0.mk (hbox); have n3_ := Aside0.mk ((by rw [hg]; exact (below_size (by repeat (first | (with_reducible first | exact HB.out | apply below_alloc | apply pw_below_drewN | apply below_drew1) | exact HB.out))) : w.heap.size ≤ gb161)); have n4_ := Aside0.mk ((by rw [hg]; exact (below_size (by repeat (first | (with_reducible first | exact HB.out | apply below_alloc | apply pw_below_drewN | apply below_drew1) | exact HB.out))) : w.heap.size ≤ gb161)); clear HO158; clear HB; have HO158 := n0_; have HB := n1_; have BK161 := n2_; have GW161 := n3_; have GE161 := n4_; clear n0_ n1_ n2_ n3_ n4_; clear hb hbox hg; have hcz10_0 : w9.cell? ⟨gb161, 0, none⟩ = some (.int .i64 0) := (blk_cell BK161.out 0).trans rfl; have hcz10_1 : w9.cell? ⟨gb161, 1, none⟩ = some (.slice none 0 0) := (blk_cell BK161.out 1).trans rfl; have hcz10_2 : w9.cell? ⟨gb161, 2, none⟩ = some (.int .i64 0) := (blk_cell BK161.out 2).trans rfl; have hfz10_0 := blk_frozen BK161.out 0; have hfz10_1 := blk_frozen BK161.out 1; have hfz10_2 := blk_frozen BK161.out 2; obtain ⟨Ao11, co11, eo11⟩ := Kd.R_slice HO158.out; subst eo11) | ((with_reducible refine gate_store (t := 35) (p := 5) rfl ?_); refine store_event (t := 35) (p := 5) (v := ?vo_w12) (w1 := (((w9.setCell ⟨gb161, 0, none⟩ (.int .i64 t155)).setCell ⟨gb161, 1, none⟩ (.slice Ao11 t156.length co11)).setCell ⟨gb161, 2, none⟩ (.int .i64 t159))) ?hg ?ho ?hn ?hr ?_; (case ho => rfl); (case hg => rfl); (case hn => rfl); (case hr => first | (go_simp; done) | (go_simp; rfl)); intro w12 hw; have n0_ : Aside0 (Kd.R Kd.string 9 w12 w.heap.size (fun _ => True) (.slice Ao11 t156.length co11) t156) := ⟨(by rw [hw]; exact (by (with_reducible repeat (first | apply Kd.R_alloc | apply Kd.R_drewN | apply Kd.R_drew)); exact Kd.R_mono (Kd.R_far (p := ⟨gb161, 2, none⟩) (Kd.R_far (p := ⟨gb161, 1, none⟩) (Kd.R_far (p := ⟨gb161, 0, none⟩) (Kd.R_types HO158.out BK161.out (by decide)) (fun _ hk => hk.2) (.int .i64 t155)) (fun _ hk => hk.2) (.slice Ao11 t156.length co11)) (fun _ hk => hk.2) (.int .i64 t159)) (fun _ hk => trivial)))⟩; have n1_ : Aside0 (w12.heap[gb161]? = some (.cells #[.int .i64 t155, .slice Ao11 t156.length co11, .int .i64 t159] 35 (0, 0))) := ⟨(by rw [hw]; exact (by (with_reducible repeat (first | refine blk_drewN ?_ _ | refine blk_drew ?_ | refine blk_alloc ?_ _)); refine blk_put (cs := #[.int .i64 t155, .slice Ao11 t156.length co11, .int .i64 0]) ?_ 2 _ rfl; (with_reducible repeat (first | refine blk_drewN ?_ _ | refine blk_drew ?_ | refine blk_alloc ?_ _)); refine blk_put (cs := #[.int .i64 t155, .slice none 0 0, .int .i64 0]) ?_ 1 _ rfl; (with_reducible repeat (first | refine blk_drewN ?_ _ | refine blk_drew ?_ | refine blk_alloc ?_ _)); refine blk_put (cs := #[.int .i64 0, .slice none 0 0, .int .i64 0]) ?_ 0 _ rfl; (with_reducible repeat (first | refine blk_drewN ?_ _ | refine blk_drew ?_ | refine blk_alloc ?_ _)); exact BK161.out))⟩; have n2_ : Aside0 (Below w.heap.size w w12) := ⟨(by rw [hw]; exact (by repeat (first | (with_reducible first | exact HB.out | apply below_alloc | apply pw_below_drewN | apply below_drew1 | refine below_set ?_ GE161.out) | exact HB.out)))⟩; clear hw; clear HO158; clear BK161; clear HB; have HO158 := n0_; have BK161 := n1_; have HB := n2_; clear n0_ n1_ n2_; have q13 : ((ji5) : Int) ≤ ((l1.length : Int) : Int) := of_decide_eq_true (by first | (with_reducible assumption) | assumption); obtain ⟨i013, hi013, _, hsz13, _⟩ := info_parts info3; have hroom13 : l1.length ≤ c1 := HC1.out; have hC13 : Kd.C (Kd.int .i64) _ A1 l1.length l1 := HR1.out; have hcut13 := cut_to (P := Try.prog) 22 3 .i64 Try.underlying22 hi013 A1 l1.length c1 (ji5) (of_decide_eq_true (by first | (with_reducible assumption) | assumption)) q13 hroom13; have hr13 := Kd.C_take (m := ((ji5) : Int).toNat) hC13 (by omega); have hy13 : y162.length = ((ji5) : Int).toNat := (by rw [Ny162.out, List.length_take]; omega); rw [← Ny162.out] at hr13; rw [← hy13] at hcut13; have HR165 := Aside0.mk hr13; have HC165 := Aside0.mk (show y162.length ≤ c1 from by omega); clear hr13 hC13 hroom13 hi013 hsz13; have KY13 := Aside0.mk hy13; clear hy13; replace q13 := eq_true q13))
        go_loopg [7, 8, 39] k (fun kq v7 v8 v39 w' => ∃ (x7_1 : List ByteArray) (x8_1 : Int) (x39_1 : Int) (x162000_1 : Int) (x162001_1 : List ByteArray) (x162002_1 : Int) (u162001 : Value), v8 = .int .i64 x8_1 ∧ v39 = .int .i64 x39_1 ∧ Aside0 (footwaylaw09_QueueOrder.l0 kq (wrap64 (1 + (Int.tmod (wrap64 ((Int.tmod a0 8) + 8)) 8))) x7_1 x8_1 y162 (y162.length : Int) x39_1 x162000_1 x162001_1 x162002_1 = some r) ∧ Aside0 (kq ≤ k) ∧ Aside0 (Kd.Q Kd.string 9 w' w.heap.size (fun _ => True) v7 x7_1) ∧ Aside0 (Kd.V Kd.string 9 w' w.heap.size (fun k_ => some k_ ≠ (v7 : Value).ownBlock ∧ k_ ≠ gb161) u162001 x162001_1) ∧ Aside0 (w'.heap[gb161]? = some (.cells #[.int .i64 x162000_1, u162001, .int .i64 x162002_1] 35 (0, 0))) ∧ Aside0 (Below w.heap.size w w'))
        case atStart => exact ⟨(([] : List ByteArray)), (0), (0), (t155), (t156), (t159), (.slice Ao11 t156.length co11), (by first | rfl | (simp; done) | (simp [*]; done)), (by first | rfl | (simp; done) | (simp [*]; done)), H', ⟨Nat.le_refl _⟩, ⟨Kd.Q_of_R (by first | exact Kd.R_nil _ _ _ _ _ | exact Kd.N_nil _ _ _ _ _ | exact Kd.V_nil _ _ _ _ _ | exact Kd.Q_nil _ _ _ _ _ | exact Kd.S_nil _ _ _ _ _)⟩, ⟨Kd.R_V (by (with_reducible repeat (first | apply Kd.R_alloc | apply Kd.R_drewN | apply Kd.R_drew)); exact Kd.R_mono (Kd.R_types HO158.out BK161.out (by decide)) (fun _ hk => ⟨(by simp [Value.ownBlock]), hk.2⟩))⟩, ⟨by (with_reducible repeat (first | refine blk_drewN ?_ _ | refine blk_drew ?_ | refine blk_alloc ?_ _)); exact BK161.out⟩, ⟨by repeat (first | (with_reducible first | exact HB.out | apply below_alloc | apply pw_below_drewN | apply below_drew1 | refine below_set ?_ GE161.out) | exact HB.out)⟩⟩
        case round =>
          clear H'
          try clear c1
          try clear q1
          try clear c2
          try clear p2
          try clear c4
          try clear c4b0
          try clear c4b1
          try clear c6
          try clear c6b0
          try clear c6b1
          try clear p6
          try clear c7
          try clear c7b0
          try clear c7b1
          try clear q13
          try clear hcz10_0
          try clear hcz10_1
          try clear hcz10_2
          try clear hfz10_0
          try clear hfz10_1
          try clear hfz10_2
          try clear q13
          obtain ⟨x7_1, x8_1, x39_1, x162000_1, x162001_1, x162002_1, u162001, rfl, rfl, HA, HK1, HO_7, HO_162001, BK161, HB⟩ := hrel
          cases gk with
          | zero => exact absurd HA.out (by simp [footwaylaw09_QueueOrder.l0])
          | succ k1 =>
            have H := HA.out
            clear HA
            simp only [footwaylaw09_QueueOrder.l0] at H
            by_cases c14 : x39_1 < (y162.length : Int)
            · rw [if_pos c14] at H
              have c14b0 : decide (x39_1 < (y162.length : Int)) = true := decide_eq_true c14
              clear c14
              by_cases c15 : 0 ≤ x39_1
              · rw [if_pos c15] at H
                have c15b0 : decide (0 ≤ x39_1) = true := decide_eq_true c15
                clear c15
                by_cases c16 : x39_1 < (y162.length : Int)
                · rw [if_pos c16] at H
                  have c16b0 : decide (x39_1 < (y162.length : Int)) = true := decide_eq_true c16
                  clear c16
                  have HC17 := Aside0.mk H
                  clear H
                  have p167 : 0 ≤ (x39_1 : Int) := of_decide_eq_true (by first | (with_reducible assumption) | assumption)
                  have q167 : x39_1 < (y162.length : Int) := of_decide_eq_true (by first | (with_reducible assumption) | assumption)
                  obtain ⟨ad167, e167, hx167_0⟩ := Kd.at_int HR165.out x39_1 p167 q167
                  cases e167
                  replace hx167_0 := (HB.out.cell (World.block_lt_of_cell? w _ hx167_0)).trans hx167_0
                  replace p167 := eq_true p167
                  replace q167 := eq_true q167
                  go_upto_block 2 with (fail)
                  go_cut [7, 8] (fun v7 v8 wc => ∃ (kq : Nat) (x7_16 : List ByteArray) (x8_16 : Int) (x162000_16 : Int) (x162001_16 : List ByteArray) (x162002_16 : Int) (u162001 : Value), v8 = .int .i64 x8_16 ∧ Aside0 (footwaylaw09_QueueOrder.j3 kq (wrap64 (1 + (Int.tmod (wrap64 ((Int.tmod a0 8) + 8)) 8))) x7_16 x8_16 y162 (y162.length : Int) x39_1 x162000_16 x162001_16 x162002_16 = some r) ∧ Aside0 (kq ≤ k1) ∧ Aside0 (Kd.Q Kd.string 9 wc w.heap.size (fun _ => True) v7 x7_16) ∧ Aside0 (Kd.V Kd.string 9 wc w.heap.size (fun k_ => some k_ ≠ (v7 : Value).ownBlock ∧ k_ ≠ gb161) u162001 x162001_16) ∧ Aside0 (wc.heap[gb161]? = some (.cells #[.int .i64 x162000_16, u162001, .int .i64 x162002_16] 35 (0, 0))) ∧ Aside0 (Below w.heap.size w wc))
                  case first =>
                    have H := HC17.out
                    clear HC17
                    by_cases c18 : (Int.tmod (wrap64 ((Int.tmod (rd y162 x39_1) 8) + 8)) 8) = 0
                    · rw [if_pos c18] at H
                      have c18b0 : ((Int.tmod (wrap64 ((Int.tmod (rd y162 x39_1) 8) + 8)) 8) == 0) = true := beq_iff_eq.mpr c18
                      have c18b1 : ((Int.tmod (wrap64 ((Int.tmod (rd y162 x39_1) 8) + 8)) 8) != 0) = false := bne_eq_false_iff_eq.mpr c18
                      clear c18
                      (first | rw [c18b0] | (simp only [i64_w, i32_w]; rw [c18b0]) | skip)
                      replace H := Option.bind_eq_some_iff.mp H
                      obtain ⟨⟨t168, t169, t172, t173, t174⟩, A190, H⟩ := H
                      replace H : (if t174 = 0 then (if t173 = (x7_1.length : Int) then (footwaylaw09_QueueOrder.j3 k1 (wrap64 (1 + (Int.tmod (wrap64 ((Int.tmod a0 8) + 8)) 8))) ([] : List ByteArray) (wrap64 (x8_1 + t173)) y162 (y162.length : Int) x39_1 t168 t169 t172) else (some false)) else (some false)) = some r := H
                      have A19 := Aside0.mk A190
                      clear A190
                      by_cases c20 : t174 = 0
                      · rw [if_pos c20] at H
                        have c20b0 : (t174 == 0) = true := beq_iff_eq.mpr c20
                        have c20b1 : (t174 != 0) = false := bne_eq_false_iff_eq.mpr c20
                        clear c20
                        by_cases c21 : t173 = (x7_1.length : Int)
                        · rw [if_pos c21] at H
                          have c21b0 : (t173 == (x7_1.length : Int)) = true := beq_iff_eq.mpr c21
                          have c21b1 : (t173 != (x7_1.length : Int)) = false := bne_eq_false_iff_eq.mpr c21
                          clear c21
                          have H' := Aside0.mk H
                          clear H
                          have hcz22_0 : wr.cell? ⟨gb161, 0, none⟩ = some (.int .i64 x162000_1) := (blk_cell BK161.out 0).trans rfl
                          have hcz22_1 : wr.cell? ⟨gb161, 1, none⟩ = some (u162001) := (blk_cell BK161.out 1).trans rfl
                          have hcz22_2 : wr.cell? ⟨gb161, 2, none⟩ = some (.int .i64 x162002_1) := (blk_cell BK161.out 2).trans rfl
                          have hfz22_0 := blk_frozen BK161.out 0
                          have hfz22_1 := blk_frozen BK161.out 1
                          have hfz22_2 := blk_frozen BK161.out 2
                          obtain ⟨Ao23, co23, eo23⟩ := Kd.V_slice HO_162001.out
                          subst eo23
                          go_wp2_with (first | ((with_reducible refine gate_callee (f := 24) rfl ?_); refine goesL_ (some 83) rfl rfl Try.func24 (by kernel_rfl) rfl #[.agg #[.int .i64 x162000_1, .slice Ao23 x162001_1.length co23, .int .i64 x162002_1]] rfl (by (try simp only [List.map_toArray, List.map_cons, List.map_nil]); first | done | rfl | (simp only [List.length_drop, List.length_take]; rfl)) ?_; (with_reducible refine (queue_Clear.calls x162000_1 _ _ x162001_1 x162002_1 t168 t169 t172 t173 t174 _ ?side1 ?side2 A19.out).mono ?_); (case side1 => repeat (first | exact (Kd.V_reads' HO_162001.out).2.2 | (with_reducible refine Kd.C_alloc ?_ _) | (with_reducible refine Kd.C_drewN ?_ _) | (with_reducible refine Kd.C_drew ?_))); (case side2 => exact (Kd.V_reads' HO_162001.out).2.1); rintro e w24 ⟨v170, rfl, ho0, hb⟩; refine ⟨_, rfl, ?_⟩; have n0_ := Aside0.mk (Kd.Q_elder' (by (with_reducible repeat (first | apply Kd.Q_alloc | apply Kd.Q_drewN | apply Kd.Q_drew)); exact HO_7.out) (Kd.R_base ho0) hb); have n1_ := Aside0.mk (Kd.V_elder' (by (with_reducible repeat (first | apply Kd.V_alloc | apply Kd.V_drewN | apply Kd.V_drew)); exact HO_162001.out) (Kd.R_base ho0) hb); have n2_ := Aside0.mk (Kd.R_lower (Kd.R_new' ho0 (Kd.Q_lt (by (with_reducible repeat (first | apply Kd.Q_alloc | apply Kd.Q_drewN | apply Kd.Q_drew)); exact HO_7.out))) (below_size (by repeat (first | (with_reducible first | exact HB.out | apply below_alloc | apply pw_below_drewN | apply below_drew1 | refine below_set ?_ GE161.out) | exact HB.out)))); have n3_ := Aside0.mk (blk_below (g := gb161) (o := .cells #[.int .i64 x162000_1, .slice Ao23 x162001_1.length co23, .int .i64 x162002_1] 35 (0, 0)) (by (with_reducible repeat (first | refine blk_drewN ?_ _ | refine blk_drew ?_ | refine blk_alloc ?_ _)); exact BK161.out) hb); have n4_ := Aside0.mk (below_step (by repeat (first | (with_reducible first | exact HB.out | apply below_alloc | apply pw_below_drewN | apply below_drew1 | refine below_set ?_ GE161.out) | exact HB.out)) hb); clear HO_7; clear HO_162001; clear BK161; clear HB; have HO_7 := n0_; have HO_162001 := n1_; have HO171 := n2_; have BK161 := n3_; have HB := n4_; clear n0_ n1_ n2_ n3_ n4_; (try clear hb); (try clear hb2); (try clear hk); (try clear hi); (try clear ho0)) | ((with_reducible refine gate_dst (N := 11) rfl ?_); (try (refine gate_guard (by rfl) ?_; dsimp only)); refine box_event ?hg (N := 11) ?hd (cs := #[.int .i64 0, .slice none 0 0, .int .i64 0]) (t := 35) ?hr ?_; (case hd => rfl); (case hg => rfl); (case hr => first | (go_simp; done) | (go_simp; rfl)); intro gb175 hg w25 hbox hb; have n0_ := Aside0.mk (Kd.Q_below (by (with_reducible repeat (first | apply Kd.Q_alloc | apply Kd.Q_drewN | apply Kd.Q_drew)); exact HO_7.out) hb); have n1_ := Aside0.mk (Kd.V_below (Kd.V_elderB (by (with_reducible repeat (first | apply Kd.V_alloc | apply Kd.V_drewN | apply Kd.V_drew)); exact HO_162001.out) gb175 (Nat.le_of_eq hg.symm)) hb); have n2_ := Aside0.mk (Kd.R_below (by (with_reducible repeat (first | apply Kd.R_alloc | apply Kd.R_drewN | apply Kd.R_drew)); exact HO171.out) hb); have n3_ := Aside0.mk (blk_below (g := gb161) (o := .cells #[.int .i64 x162000_1, .slice Ao23 x162001_1.length co23, .int .i64 x162002_1] 35 (0, 0)) (by (with_reducible repeat (first | refine blk_drewN ?_ _ | refine blk_drew ?_ | refine blk_alloc ?_ _)); exact BK161.out) hb); have n4_ := Aside0.mk (below_step (by repeat (first | (with_reducible first | exact HB.out | apply below_alloc | apply pw_below_drewN | apply below_drew1 | refine below_set ?_ GE161.out) | exact HB.out)) hb); have n5_ := Aside0.mk (hbox); have n6_ := Aside0.mk ((by rw [hg]; exact (below_size (by repeat (first | (with_reducible first | exact HB.out | apply below_alloc | apply pw_below_drewN | apply below_drew1 | refine below_set ?_ GE161.out) | exact HB.out))) : w.heap.size ≤ gb175)); have n7_ := Aside0.mk ((by rw [hg]; exact (below_size (by repeat (first | (with_reducible first | exact HB.out | apply below_alloc | apply pw_below_drewN | apply below_drew1 | refine below_set ?_ GE161.out) | exact HB.out))) : w.heap.size ≤ gb175)); have n8_ := Aside0.mk ((by rw [hg]; exact Nat.ne_of_lt (blk_lt (g := gb161) (o := .cells #[.int .i64 x162000_1, .slice Ao23 x162001_1.length co23, .int .i64 x162002_1] 35 (0, 0)) (by (with_reducible repeat (first | refine blk_drewN ?_ _ | refine blk_drew ?_ | refine blk_alloc ?_ _)); exact BK161.out)) : gb161 ≠ gb175)); have n9_ := Aside0.mk ((by rw [hg]; exact Nat.ne_of_gt (blk_lt (g := gb161) (o := .cells #[.int .i64 x162000_1, .slice Ao23 x162001_1.length co23, .int .i64 x162002_1] 35 (0, 0)) (by (with_reducible repeat (first | refine blk_drewN ?_ _ | refine blk_drew ?_ | refine blk_alloc ?_ _)); exact BK161.out)) : gb175 ≠ gb161)); clear HO_7; clear HO_162001; clear HO171; clear BK161; clear HB; have HO_7 := n0_; have HO_162001 := n1_; have HO171 := n2_; have BK161 := n3_; have HB := n4_; have BK175 := n5_; have GW175 := n6_; have GE175 := n7_; have NB161_175 := n8_; have NB175_161 := n9_; clear n0_ n1_ n2_ n3_ n4_ n5_ n6_ n7_ n8_ n9_; clear hb hbox hg; have hnb26 := NB175_161.out; have hnc26 := NB161_175.out; have hcz27_0 : w25.cell? ⟨gb175, 0, none⟩ = some (.int .i64 0) := (blk_cell BK175.out 0).trans rfl; have hcz27_1 : w25.cell? ⟨gb175, 1, none⟩ = some (.slice none 0 0) := (blk_cell BK175.out 1).trans rfl; have hcz27_2 : w25.cell? ⟨gb175, 2, none⟩ = some (.int .i64 0) := (blk_cell BK175.out 2).trans rfl; have hfz27_0 := blk_frozen BK175.out 0; have hfz27_1 := blk_frozen BK175.out 1; have hfz27_2 := blk_frozen BK175.out 2; obtain ⟨Ao28, co28, eo28⟩ := Kd.R_slice HO171.out; subst eo28; obtain ⟨Ao29, co29, eo29, _⟩ := Kd.Q_slice HO_7.out; subst eo29; have hcz30_0 : w25.cell? ⟨gb161, 0, none⟩ = some (.int .i64 x162000_1) := (blk_cell BK161.out 0).trans rfl; have hcz30_1 : w25.cell? ⟨gb161, 1, none⟩ = some (.slice Ao23 x162001_1.length co23) := (blk_cell BK161.out 1).trans rfl; have hcz30_2 : w25.cell? ⟨gb161, 2, none⟩ = some (.int .i64 x162002_1) := (blk_cell BK161.out 2).trans rfl; have hfz30_0 := blk_frozen BK161.out 0; have hfz30_1 := blk_frozen BK161.out 1; have hfz30_2 := blk_frozen BK161.out 2))
                          go_meet
                          case rel => exact ⟨_, (([] : List ByteArray)), (wrap64 (x8_1 + t173)), (t168), (t169), (t172), (.slice Ao28 t169.length co28), (by first | rfl | (simp; done) | (simp [*]; done)), H', ⟨by have := HK1.out; first | omega | exact Nat.le_refl _⟩, ⟨Kd.Q_of_R (by first | exact Kd.R_nil _ _ _ _ _ | exact Kd.N_nil _ _ _ _ _ | exact Kd.V_nil _ _ _ _ _ | exact Kd.Q_nil _ _ _ _ _ | exact Kd.S_nil _ _ _ _ _)⟩, ⟨Kd.R_V (by (with_reducible repeat (first | apply Kd.R_alloc | apply Kd.R_drewN | apply Kd.R_drew)); exact Kd.R_mono (Kd.R_far (p := ⟨gb161, 2, none⟩) (Kd.R_far (p := ⟨gb161, 1, none⟩) (Kd.R_far (p := ⟨gb161, 0, none⟩) (Kd.R_far (p := ⟨gb175, 2, none⟩) (Kd.R_far (p := ⟨gb175, 1, none⟩) (Kd.R_far (p := ⟨gb175, 0, none⟩) (Kd.R_types (Kd.R_types (Kd.R_types HO171.out BK161.out (by decide)) BK175.out (by decide)) BK161.out (by decide)) (fun _ hk => hk.1.2) (.int .i64 t168)) (fun _ hk => hk.1.2) (.slice Ao28 t169.length co28)) (fun _ hk => hk.1.2) (.int .i64 t172)) (fun _ hk => hk.2) (.int .i64 t168)) (fun _ hk => hk.2) (.slice Ao28 t169.length co28)) (fun _ hk => hk.2) (.int .i64 t172)) (fun _ hk => ⟨(by simp [Value.ownBlock]), hk.1.1.2⟩))⟩, ⟨by (with_reducible repeat (first | refine blk_drewN ?_ _ | refine blk_drew ?_ | refine blk_alloc ?_ _)); refine blk_put (cs := #[.int .i64 t168, .slice Ao28 t169.length co28, .int .i64 x162002_1]) ?_ 2 _ rfl; (with_reducible repeat (first | refine blk_drewN ?_ _ | refine blk_drew ?_ | refine blk_alloc ?_ _)); refine blk_put (cs := #[.int .i64 t168, .slice Ao23 x162001_1.length co23, .int .i64 x162002_1]) ?_ 1 _ rfl; (with_reducible repeat (first | refine blk_drewN ?_ _ | refine blk_drew ?_ | refine blk_alloc ?_ _)); refine blk_put (cs := #[.int .i64 x162000_1, .slice Ao23 x162001_1.length co23, .int .i64 x162002_1]) ?_ 0 _ rfl; (with_reducible repeat (first | refine blk_drewN ?_ _ | refine blk_drew ?_ | refine blk_alloc ?_ _)); refine blk_far ?_ NB161_175.out _; (with_reducible repeat (first | refine blk_drewN ?_ _ | refine blk_drew ?_ | refine blk_alloc ?_ _)); refine blk_far ?_ NB161_175.out _; (with_reducible repeat (first | refine blk_drewN ?_ _ | refine blk_drew ?_ | refine blk_alloc ?_ _)); refine blk_far ?_ NB161_175.out _; (with_reducible repeat (first | refine blk_drewN ?_ _ | refine blk_drew ?_ | refine blk_alloc ?_ _)); exact BK161.out⟩, ⟨by repeat (first | (with_reducible first | exact HB.out | apply below_alloc | apply pw_below_drewN | apply below_drew1 | refine below_set ?_ GE161.out | refine below_set ?_ GE175.out) | exact HB.out)⟩⟩
                        · rw [if_neg c21] at H
                          have c21b0 : (t173 == (x7_1.length : Int)) = false := beq_eq_false_iff_ne.mpr c21
                          have c21b1 : (t173 != (x7_1.length : Int)) = true := bne_iff_ne.mpr c21
                          obtain rfl := Option.some.inj H
                          have hcz31_0 : wr.cell? ⟨gb161, 0, none⟩ = some (.int .i64 x162000_1) := (blk_cell BK161.out 0).trans rfl
                          have hcz31_1 : wr.cell? ⟨gb161, 1, none⟩ = some (u162001) := (blk_cell BK161.out 1).trans rfl
                          have hcz31_2 : wr.cell? ⟨gb161, 2, none⟩ = some (.int .i64 x162002_1) := (blk_cell BK161.out 2).trans rfl
                          have hfz31_0 := blk_frozen BK161.out 0
                          have hfz31_1 := blk_frozen BK161.out 1
                          have hfz31_2 := blk_frozen BK161.out 2
                          obtain ⟨Ao32, co32, eo32⟩ := Kd.V_slice HO_162001.out
                          subst eo32
                          go_wp2_with (first | ((with_reducible refine gate_callee (f := 24) rfl ?_); refine goesL_ (some 83) rfl rfl Try.func24 (by kernel_rfl) rfl #[.agg #[.int .i64 x162000_1, .slice Ao32 x162001_1.length co32, .int .i64 x162002_1]] rfl (by (try simp only [List.map_toArray, List.map_cons, List.map_nil]); first | done | rfl | (simp only [List.length_drop, List.length_take]; rfl)) ?_; (with_reducible refine (queue_Clear.calls x162000_1 _ _ x162001_1 x162002_1 t168 t169 t172 t173 t174 _ ?side1 ?side2 A19.out).mono ?_); (case side1 => repeat (first | exact (Kd.V_reads' HO_162001.out).2.2 | (with_reducible refine Kd.C_alloc ?_ _) | (with_reducible refine Kd.C_drewN ?_ _) | (with_reducible refine Kd.C_drew ?_))); (case side2 => exact (Kd.V_reads' HO_162001.out).2.1); rintro e w33 ⟨v170, rfl, ho0, hb⟩; refine ⟨_, rfl, ?_⟩; have n0_ := Aside0.mk (Kd.Q_elder' (by (with_reducible repeat (first | apply Kd.Q_alloc | apply Kd.Q_drewN | apply Kd.Q_drew)); exact HO_7.out) (Kd.R_base ho0) hb); have n1_ := Aside0.mk (Kd.V_elder' (by (with_reducible repeat (first | apply Kd.V_alloc | apply Kd.V_drewN | apply Kd.V_drew)); exact HO_162001.out) (Kd.R_base ho0) hb); have n2_ := Aside0.mk (Kd.R_lower (Kd.R_new' ho0 (Kd.Q_lt (by (with_reducible repeat (first | apply Kd.Q_alloc | apply Kd.Q_drewN | apply Kd.Q_drew)); exact HO_7.out))) (below_size (by repeat (first | (with_reducible first | exact HB.out | apply below_alloc | apply pw_below_drewN | apply below_drew1 | refine below_set ?_ GE161.out) | exact HB.out)))); have n3_ := Aside0.mk (blk_below (g := gb161) (o := .cells #[.int .i64 x162000_1, .slice Ao32 x162001_1.length co32, .int .i64 x162002_1] 35 (0, 0)) (by (with_reducible repeat (first | refine blk_drewN ?_ _ | refine blk_drew ?_ | refine blk_alloc ?_ _)); exact BK161.out) hb); have n4_ := Aside0.mk (below_step (by repeat (first | (with_reducible first | exact HB.out | apply below_alloc | apply pw_below_drewN | apply below_drew1 | refine below_set ?_ GE161.out) | exact HB.out)) hb); clear HO_7; clear HO_162001; clear BK161; clear HB; have HO_7 := n0_; have HO_162001 := n1_; have HO171 := n2_; have BK161 := n3_; have HB := n4_; clear n0_ n1_ n2_ n3_ n4_; (try clear hb); (try clear hb2); (try clear hk); (try clear hi); (try clear ho0)) | ((with_reducible refine gate_dst (N := 11) rfl ?_); (try (refine gate_guard (by rfl) ?_; dsimp only)); refine box_event ?hg (N := 11) ?hd (cs := #[.int .i64 0, .slice none 0 0, .int .i64 0]) (t := 35) ?hr ?_; (case hd => rfl); (case hg => rfl); (case hr => first | (go_simp; done) | (go_simp; rfl)); intro gb175 hg w34 hbox hb; have n0_ := Aside0.mk (Kd.Q_below (by (with_reducible repeat (first | apply Kd.Q_alloc | apply Kd.Q_drewN | apply Kd.Q_drew)); exact HO_7.out) hb); have n1_ := Aside0.mk (Kd.V_below (Kd.V_elderB (by (with_reducible repeat (first | apply Kd.V_alloc | apply Kd.V_drewN | apply Kd.V_drew)); exact HO_162001.out) gb175 (Nat.le_of_eq hg.symm)) hb); have n2_ := Aside0.mk (Kd.R_below (by (with_reducible repeat (first | apply Kd.R_alloc | apply Kd.R_drewN | apply Kd.R_drew)); exact HO171.out) hb); have n3_ := Aside0.mk (blk_below (g := gb161) (o := .cells #[.int .i64 x162000_1, .slice Ao32 x162001_1.length co32, .int .i64 x162002_1] 35 (0, 0)) (by (with_reducible repeat (first | refine blk_drewN ?_ _ | refine blk_drew ?_ | refine blk_alloc ?_ _)); exact BK161.out) hb); have n4_ := Aside0.mk (below_step (by repeat (first | (with_reducible first | exact HB.out | apply below_alloc | apply pw_below_drewN | apply below_drew1 | refine below_set ?_ GE161.out) | exact HB.out)) hb); have n5_ := Aside0.mk (hbox); have n6_ := Aside0.mk ((by rw [hg]; exact (below_size (by repeat (first | (with_reducible first | exact HB.out | apply below_alloc | apply pw_below_drewN | apply below_drew1 | refine below_set ?_ GE161.out) | exact HB.out))) : w.heap.size ≤ gb175)); have n7_ := Aside0.mk ((by rw [hg]; exact (below_size (by repeat (first | (with_reducible first | exact HB.out | apply below_alloc | apply pw_below_drewN | apply below_drew1 | refine below_set ?_ GE161.out) | exact HB.out))) : w.heap.size ≤ gb175)); have n8_ := Aside0.mk ((by rw [hg]; exact Nat.ne_of_lt (blk_lt (g := gb161) (o := .cells #[.int .i64 x162000_1, .slice Ao32 x162001_1.length co32, .int .i64 x162002_1] 35 (0, 0)) (by (with_reducible repeat (first | refine blk_drewN ?_ _ | refine blk_drew ?_ | refine blk_alloc ?_ _)); exact BK161.out)) : gb161 ≠ gb175)); have n9_ := Aside0.mk ((by rw [hg]; exact Nat.ne_of_gt (blk_lt (g := gb161) (o := .cells #[.int .i64 x162000_1, .slice Ao32 x162001_1.length co32, .int .i64 x162002_1] 35 (0, 0)) (by (with_reducible repeat (first | refine blk_drewN ?_ _ | refine blk_drew ?_ | refine blk_alloc ?_ _)); exact BK161.out)) : gb175 ≠ gb161)); clear HO_7; clear HO_162001; clear HO171; clear BK161; clear HB; have HO_7 := n0_; have HO_162001 := n1_; have HO171 := n2_; have BK161 := n3_; have HB := n4_; have BK175 := n5_; have GW175 := n6_; have GE175 := n7_; have NB161_175 := n8_; have NB175_161 := n9_; clear n0_ n1_ n2_ n3_ n4_ n5_ n6_ n7_ n8_ n9_; clear hb hbox hg; have hnb35 := NB175_161.out; have hnc35 := NB161_175.out; have hcz36_0 : w34.cell? ⟨gb175, 0, none⟩ = some (.int .i64 0) := (blk_cell BK175.out 0).trans rfl; have hcz36_1 : w34.cell? ⟨gb175, 1, none⟩ = some (.slice none 0 0) := (blk_cell BK175.out 1).trans rfl; have hcz36_2 : w34.cell? ⟨gb175, 2, none⟩ = some (.int .i64 0) := (blk_cell BK175.out 2).trans rfl; have hfz36_0 := blk_frozen BK175.out 0; have hfz36_1 := blk_frozen BK175.out 1; have hfz36_2 := blk_frozen BK175.out 2; obtain ⟨Ao37, co37, eo37⟩ := Kd.R_slice HO171.out; subst eo37; obtain ⟨Ao38, co38, eo38, _⟩ := Kd.Q_slice HO_7.out; subst eo38))
                          go_ret
                          exact ⟨by first | rfl | (simp [errW_none, errW_some] <;> rfl) | (simp only [← hji5]; first | rfl | (simp [errW_none, errW_some] <;> rfl)) | (simp [*, errW_none, errW_some] <;> rfl), by repeat (first | (with_reducible first | exact HB.out | apply below_alloc | apply pw_below_drewN | apply below_drew1 | refine below_set ?_ GE161.out | refine below_set ?_ GE175.out) | exact HB.out)⟩
                      · rw [if_neg c20] at H
                        have c20b0 : (t174 == 0) = false := beq_eq_false_iff_ne.mpr c20
                        have c20b1 : (t174 != 0) = true := bne_iff_ne.mpr c20
                        obtain rfl := Option.some.inj H
                        have hcz39_0 : wr.cell? ⟨gb161, 0, none⟩ = some (.int .i64 x162000_1) := (blk_cell BK161.out 0).trans rfl
                        have hcz39_1 : wr.cell? ⟨gb161, 1, none⟩ = some (u162001) := (blk_cell BK161.out 1).trans rfl
                        have hcz39_2 : wr.cell? ⟨gb161, 2, none⟩ = some (.int .i64 x162002_1) := (blk_cell BK161.out 2).trans rfl
                        have hfz39_0 := blk_frozen BK161.out 0
                        have hfz39_1 := blk_frozen BK161.out 1
                        have hfz39_2 := blk_frozen BK161.out 2
                        obtain ⟨Ao40, co40, eo40⟩ := Kd.V_slice HO_162001.out
                        subst eo40
                        go_wp2_with (first | ((with_reducible refine gate_callee (f := 24) rfl ?_); refine goesL_ (some 83) rfl rfl Try.func24 (by kernel_rfl) rfl #[.agg #[.int .i64 x162000_1, .slice Ao40 x162001_1.length co40, .int .i64 x162002_1]] rfl (by (try simp only [List.map_toArray, List.map_cons, List.map_nil]); first | done | rfl | (simp only [List.length_drop, List.length_take]; rfl)) ?_; (with_reducible refine (queue_Clear.calls x162000_1 _ _ x162001_1 x162002_1 t168 t169 t172 t173 t174 _ ?side1 ?side2 A19.out).mono ?_); (case side1 => repeat (first | exact (Kd.V_reads' HO_162001.out).2.2 | (with_reducible refine Kd.C_alloc ?_ _) | (with_reducible refine Kd.C_drewN ?_ _) | (with_reducible refine Kd.C_drew ?_))); (case side2 => exact (Kd.V_reads' HO_162001.out).2.1); rintro e w41 ⟨v170, rfl, ho0, hb⟩; refine ⟨_, rfl, ?_⟩; have n0_ := Aside0.mk (Kd.Q_elder' (by (with_reducible repeat (first | apply Kd.Q_alloc | apply Kd.Q_drewN | apply Kd.Q_drew)); exact HO_7.out) (Kd.R_base ho0) hb); have n1_ := Aside0.mk (Kd.V_elder' (by (with_reducible repeat (first | apply Kd.V_alloc | apply Kd.V_drewN | apply Kd.V_drew)); exact HO_162001.out) (Kd.R_base ho0) hb); have n2_ := Aside0.mk (Kd.R_lower (Kd.R_new' ho0 (Kd.Q_lt (by (with_reducible repeat (first | apply Kd.Q_alloc | apply Kd.Q_drewN | apply Kd.Q_drew)); exact HO_7.out))) (below_size (by repeat (first | (with_reducible first | exact HB.out | apply below_alloc | apply pw_below_drewN | apply below_drew1 | refine below_set ?_ GE161.out) | exact HB.out)))); have n3_ := Aside0.mk (blk_below (g := gb161) (o := .cells #[.int .i64 x162000_1, .slice Ao40 x162001_1.length co40, .int .i64 x162002_1] 35 (0, 0)) (by (with_reducible repeat (first | refine blk_drewN ?_ _ | refine blk_drew ?_ | refine blk_alloc ?_ _)); exact BK161.out) hb); have n4_ := Aside0.mk (below_step (by repeat (first | (with_reducible first | exact HB.out | apply below_alloc | apply pw_below_drewN | apply below_drew1 | refine below_set ?_ GE161.out) | exact HB.out)) hb); clear HO_7; clear HO_162001; clear BK161; clear HB; have HO_7 := n0_; have HO_162001 := n1_; have HO171 := n2_; have BK161 := n3_; have HB := n4_; clear n0_ n1_ n2_ n3_ n4_; (try clear hb); (try clear hb2); (try clear hk); (try clear hi); (try clear ho0)) | ((with_reducible refine gate_dst (N := 11) rfl ?_); (try (refine gate_guard (by rfl) ?_; dsimp only)); refine box_event ?hg (N := 11) ?hd (cs := #[.int .i64 0, .slice none 0 0, .int .i64 0]) (t := 35) ?hr ?_; (case hd => rfl); (case hg => rfl); (case hr => first | (go_simp; done) | (go_simp; rfl)); intro gb175 hg w42 hbox hb; have n0_ := Aside0.mk (Kd.Q_below (by (with_reducible repeat (first | apply Kd.Q_alloc | apply Kd.Q_drewN | apply Kd.Q_drew)); exact HO_7.out) hb); have n1_ := Aside0.mk (Kd.V_below (Kd.V_elderB (by (with_reducible repeat (first | apply Kd.V_alloc | apply Kd.V_drewN | apply Kd.V_drew)); exact HO_162001.out) gb175 (Nat.le_of_eq hg.symm)) hb); have n2_ := Aside0.mk (Kd.R_below (by (with_reducible repeat (first | apply Kd.R_alloc | apply Kd.R_drewN | apply Kd.R_drew)); exact HO171.out) hb); have n3_ := Aside0.mk (blk_below (g := gb161) (o := .cells #[.int .i64 x162000_1, .slice Ao40 x162001_1.length co40, .int .i64 x162002_1] 35 (0, 0)) (by (with_reducible repeat (first | refine blk_drewN ?_ _ | refine blk_drew ?_ | refine blk_alloc ?_ _)); exact BK161.out) hb); have n4_ := Aside0.mk (below_step (by repeat (first | (with_reducible first | exact HB.out | apply below_alloc | apply pw_below_drewN | apply below_drew1 | refine below_set ?_ GE161.out) | exact HB.out)) hb); have n5_ := Aside0.mk (hbox); have n6_ := Aside0.mk ((by rw [hg]; exact (below_size (by repeat (first | (with_reducible first | exact HB.out | apply below_alloc | apply pw_below_drewN | apply below_drew1 | refine below_set ?_ GE161.out) | exact HB.out))) : w.heap.size ≤ gb175)); have n7_ := Aside0.mk ((by rw [hg]; exact (below_size (by repeat (first | (with_reducible first | exact HB.out | apply below_alloc | apply pw_below_drewN | apply below_drew1 | refine below_set ?_ GE161.out) | exact HB.out))) : w.heap.size ≤ gb175)); have n8_ := Aside0.mk ((by rw [hg]; exact Nat.ne_of_lt (blk_lt (g := gb161) (o := .cells #[.int .i64 x162000_1, .slice Ao40 x162001_1.length co40, .int .i64 x162002_1] 35 (0, 0)) (by (with_reducible repeat (first | refine blk_drewN ?_ _ | refine blk_drew ?_ | refine blk_alloc ?_ _)); exact BK161.out)) : gb161 ≠ gb175)); have n9_ := Aside0.mk ((by rw [hg]; exact Nat.ne_of_gt (blk_lt (g := gb161) (o := .cells #[.int .i64 x162000_1, .slice Ao40 x162001_1.length co40, .int .i64 x162002_1] 35 (0, 0)) (by (with_reducible repeat (first | refine blk_drewN ?_ _ | refine blk_drew ?_ | refine blk_alloc ?_ _)); exact BK161.out)) : gb175 ≠ gb161)); clear HO_7; clear HO_162001; clear HO171; clear BK161; clear HB; have HO_7 := n0_; have HO_162001 := n1_; have HO171 := n2_; have BK161 := n3_; have HB := n4_; have BK175 := n5_; have GW175 := n6_; have GE175 := n7_; have NB161_175 := n8_; have NB175_161 := n9_; clear n0_ n1_ n2_ n3_ n4_ n5_ n6_ n7_ n8_ n9_; clear hb hbox hg; have hnb43 := NB175_161.out; have hnc43 := NB161_175.out; have hcz44_0 : w42.cell? ⟨gb175, 0, none⟩ = some (.int .i64 0) := (blk_cell BK175.out 0).trans rfl; have hcz44_1 : w42.cell? ⟨gb175, 1, none⟩ = some (.slice none 0 0) := (blk_cell BK175.out 1).trans rfl; have hcz44_2 : w42.cell? ⟨gb175, 2, none⟩ = some (.int .i64 0) := (blk_cell BK175.out 2).trans rfl; have hfz44_0 := blk_frozen BK175.out 0; have hfz44_1 := blk_frozen BK175.out 1; have hfz44_2 := blk_frozen BK175.out 2; obtain ⟨Ao45, co45, eo45⟩ := Kd.R_slice HO171.out; subst eo45))
                        go_ret
                        exact ⟨by first | rfl | (simp [errW_none, errW_some] <;> rfl) | (simp only [← hji5]; first | rfl | (simp [errW_none, errW_some] <;> rfl)) | (simp [*, errW_none, errW_some] <;> rfl), by repeat (first | (with_reducible first | exact HB.out | apply below_alloc | apply pw_below_drewN | apply below_drew1 | refine below_set ?_ GE161.out | refine below_set ?_ GE175.out) | exact HB.out)⟩
                    · rw [if_neg c18] at H
                      have c18b0 : ((Int.tmod (wrap64 ((Int.tmod (rd y162 x39_1) 8) + 8)) 8) == 0) = false := beq_eq_false_iff_ne.mpr c18
                      have c18b1 : ((Int.tmod (wrap64 ((Int.tmod (rd y162 x39_1) 8) + 8)) 8) != 0) = true := bne_iff_ne.mpr c18
                      (first | rw [c18b0] | (simp only [i64_w, i32_w]; rw [c18b0]) | skip)
                      have HC46 := Aside0.mk H
                      clear H
                      go_upto_if 99 with (fail)
                      go_cut [99] (fun v99 wc => ∃ (kq : Nat) (x99_45 : Bool), v99 = .bool x99_45 ∧ Aside0 (footwaylaw09_QueueOrder.j1 kq (wrap64 (1 + (Int.tmod (wrap64 ((Int.tmod a0 8) + 8)) 8))) x7_1 x8_1 x39_1 (rd y162 x39_1) y162 (y162.length : Int) x39_1 x99_45 x162000_1 x162001_1 x162002_1 = some r) ∧ Aside0 (kq ≤ k1) ∧ Aside0 (Kd.Q Kd.string 9 wc w.heap.size (fun _ => True) u7 x7_1) ∧ Aside0 (Kd.V Kd.string 9 wc w.heap.size (fun k_ => some k_ ≠ (u7 : Value).ownBlock ∧ k_ ≠ gb161) u162001 x162001_1) ∧ Aside0 (wc.heap[gb161]? = some (.cells #[.int .i64 x162000_1, u162001, .int .i64 x162002_1] 35 (0, 0))) ∧ Aside0 (Below w.heap.size w wc))
                      case first =>
                        have H := HC46.out
                        clear HC46
                        by_cases c47 : (Int.tmod (wrap64 ((Int.tmod (rd y162 x39_1) 8) + 8)) 8) = 1
                        · rw [if_pos c47] at H
                          have c47b0 : ((Int.tmod (wrap64 ((Int.tmod (rd y162 x39_1) 8) + 8)) 8) == 1) = true := beq_iff_eq.mpr c47
                          have c47b1 : ((Int.tmod (wrap64 ((Int.tmod (rd y162 x39_1) 8) + 8)) 8) != 1) = false := bne_eq_false_iff_eq.mpr c47
                          clear c47
                          (first | rw [c47b0] | (simp only [i64_w, i32_w]; rw [c47b0]) | skip)
                          have H' := Aside0.mk H
                          clear H
                          go_wp2
                          go_meet
                          case rel => exact ⟨_, (((Int.tmod (wrap64 ((Int.tmod (rd y162 x39_1) 8) + 8)) 8) == 1)), (by first | rfl | (simp; done) | (simp [*]; done)), H', ⟨by have := HK1.out; first | omega | exact Nat.le_refl _⟩, ⟨by (with_reducible repeat (first | apply Kd.Q_alloc | apply Kd.Q_drewN | apply Kd.Q_drew)); exact HO_7.out⟩, ⟨by (with_reducible repeat (first | apply Kd.V_alloc | apply Kd.V_drewN | apply Kd.V_drew)); exact HO_162001.out⟩, ⟨by (with_reducible repeat (first | refine blk_drewN ?_ _ | refine blk_drew ?_ | refine blk_alloc ?_ _)); exact BK161.out⟩, ⟨by repeat (first | (with_reducible first | exact HB.out | apply below_alloc | apply pw_below_drewN | apply below_drew1 | refine below_set ?_ GE161.out) | exact HB.out)⟩⟩
                        · rw [if_neg c47] at H
                          have c47b0 : ((Int.tmod (wrap64 ((Int.tmod (rd y162 x39_1) 8) + 8)) 8) == 1) = false := beq_eq_false_iff_ne.mpr c47
                          have c47b1 : ((Int.tmod (wrap64 ((Int.tmod (rd y162 x39_1) 8) + 8)) 8) != 1) = true := bne_iff_ne.mpr c47
                          (first | rw [c47b0] | (simp only [i64_w, i32_w]; rw [c47b0]) | skip)
                          by_cases c48 : (Int.tmod (wrap64 ((Int.tmod (rd y162 x39_1) 8) + 8)) 8) = 2
                          · rw [if_pos c48] at H
                            have c48b0 : ((Int.tmod (wrap64 ((Int.tmod (rd y162 x39_1) 8) + 8)) 8) == 2) = true := beq_iff_eq.mpr c48
                            have c48b1 : ((Int.tmod (wrap64 ((Int.tmod (rd y162 x39_1) 8) + 8)) 8) != 2) = false := bne_eq_false_iff_eq.mpr c48
                            clear c48
                            have H' := Aside0.mk H
                            clear H
                            go_wp2
                            go_meet
                            case rel => exact ⟨_, (((Int.tmod (wrap64 ((Int.tmod (rd y162 x39_1) 8) + 8)) 8) == 2)), (by first | rfl | (simp; done) | (simp [*]; done)), H', ⟨by have := HK1.out; first | omega | exact Nat.le_refl _⟩, ⟨by (with_reducible repeat (first | apply Kd.Q_alloc | apply Kd.Q_drewN | apply Kd.Q_drew)); exact HO_7.out⟩, ⟨by (with_reducible repeat (first | apply Kd.V_alloc | apply Kd.V_drewN | apply Kd.V_drew)); exact HO_162001.out⟩, ⟨by (with_reducible repeat (first | refine blk_drewN ?_ _ | refine blk_drew ?_ | refine blk_alloc ?_ _)); exact BK161.out⟩, ⟨by repeat (first | (with_reducible first | exact HB.out | apply below_alloc | apply pw_below_drewN | apply below_drew1 | refine below_set ?_ GE161.out) | exact HB.out)⟩⟩
                          · rw [if_neg c48] at H
                            have c48b0 : ((Int.tmod (wrap64 ((Int.tmod (rd y162 x39_1) 8) + 8)) 8) == 2) = false := beq_eq_false_iff_ne.mpr c48
                            have c48b1 : ((Int.tmod (wrap64 ((Int.tmod (rd y162 x39_1) 8) + 8)) 8) != 2) = true := bne_iff_ne.mpr c48
                            have H' := Aside0.mk H
                            clear H
                            go_wp2
                            go_meet
                            case rel => exact ⟨_, (((Int.tmod (wrap64 ((Int.tmod (rd y162 x39_1) 8) + 8)) 8) == 3)), (by first | rfl | (simp; done) | (simp [*]; done)), H', ⟨by have := HK1.out; first | omega | exact Nat.le_refl _⟩, ⟨by (with_reducible repeat (first | apply Kd.Q_alloc | apply Kd.Q_drewN | apply Kd.Q_drew)); exact HO_7.out⟩, ⟨by (with_reducible repeat (first | apply Kd.V_alloc | apply Kd.V_drewN | apply Kd.V_drew)); exact HO_162001.out⟩, ⟨by (with_reducible repeat (first | refine blk_drewN ?_ _ | refine blk_drew ?_ | refine blk_alloc ?_ _)); exact BK161.out⟩, ⟨by repeat (first | (with_reducible first | exact HB.out | apply below_alloc | apply pw_below_drewN | apply below_drew1 | refine below_set ?_ GE161.out) | exact HB.out)⟩⟩
                      case rest =>
                        clear HC46
                        try clear c1
                        try clear p1
                        try clear q1
                        try clear hx1
                        try clear c2
                        try clear p2
                        try clear c3
                        try clear c4
                        try clear c4b0
                        try clear c4b1
                        try clear c6
                        try clear c6b0
                        try clear c6b1
                        try clear p6
                        try clear c7
                        try clear c7b0
                        try clear c7b1
                        try clear q13
                        try clear c14
                        try clear c14b0
                        try clear c15
                        try clear c15b0
                        try clear c16
                        try clear c16b0
                        try clear p16
                        try clear q16
                        try clear hx16
                        try clear c18
                        try clear c18b0
                        try clear c18b1
                        try clear c20
                        try clear c20b0
                        try clear c20b1
                        try clear c21
                        try clear c21b0
                        try clear c21b1
                        try clear c24
                        try clear c26
                        try clear c35
                        try clear c43
                        try clear c47
                        try clear c47b0
                        try clear c47b1
                        try clear c48
                        try clear c48b0
                        try clear c48b1
                        try clear hcz10_0
                        try clear hcz10_1
                        try clear hcz10_2
                        try clear hcz22_0
                        try clear hcz22_1
                        try clear hcz22_2
                        try clear hcz27_0
                        try clear hcz27_1
                        try clear hcz27_2
                        try clear hcz30_0
                        try clear hcz30_1
                        try clear hcz30_2
                        try clear hcz31_0
                        try clear hcz31_1
                        try clear hcz31_2
                        try clear hcz36_0
                        try clear hcz36_1
                        try clear hcz36_2
                        try clear hcz39_0
                        try clear hcz39_1
                        try clear hcz39_2
                        try clear hcz44_0
                        try clear hcz44_1
                        try clear hcz44_2
                        try clear hfz10_0
                        try clear hfz10_1
                        try clear hfz10_2
                        try clear hfz22_0
                        try clear hfz22_1
                        try clear hfz22_2
                        try clear hfz27_0
                        try clear hfz27_1
                        try clear hfz27_2
                        try clear hfz30_0
                        try clear hfz30_1
                        try clear hfz30_2
                        try clear hfz31_0
                        try clear hfz31_1
                        try clear hfz31_2
                        try clear hfz36_0
                        try clear hfz36_1
                        try clear hfz36_2
                        try clear hfz39_0
                        try clear hfz39_1
                        try clear hfz39_2
                        try clear hfz44_0
                        try clear hfz44_1
                        try clear hfz44_2
                        try clear hx167_0
                        try clear p167
                        try clear p2
                        try clear p6
                        try clear q1
                        try clear q13
                        try clear q167
                        obtain ⟨kq, x99_45, rfl, HA, HJ45, HO_7, HO_162001, BK161, HB⟩ := hcut
                        cases kq with
                        | zero => exact absurd HA.out (by simp [footwaylaw09_QueueOrder.j1])
                        | succ kj45 =>
                          have H := HA.out
                          clear HA
                          simp only [footwaylaw09_QueueOrder.j1] at H
                          by_cases c49 : x99_45 = true
                          · subst c49
                            have H1 : ((queue_Pop.f x162000_1 x162001_1 x162002_1).bind fun bt176 => (if (x7_1.length : Int) = 0 then (if bt176.2.2.2.2 = 4 then (footwaylaw09_QueueOrder.l0 kj45 (wrap64 (1 + (Int.tmod (wrap64 ((Int.tmod a0 8) + 8)) 8))) x7_1 x8_1 y162 (y162.length : Int) (wrap64 (x39_1 + 1)) x162000_1 x162001_1 x162002_1) else (some false)) else (if bt176.2.2.2.2 = 0 then (if 0 < (x7_1.length : Int) then (if bt176.2.2.2.1.toList = (rdOf ByteArray.empty x7_1 0).toList then (if 1 ≤ (x7_1.length : Int) then (footwaylaw09_QueueOrder.j3 kj45 (wrap64 (1 + (Int.tmod (wrap64 ((Int.tmod a0 8) + 8)) 8))) (x7_1.drop (1 : Int).toNat) x8_1 y162 (y162.length : Int) x39_1 bt176.1 bt176.2.1 bt176.2.2.1) else (none)) else (some false)) else (none)) else (some false)))) = some r := by rw [if_pos rfl] at H; exact H
                            clear H
                            have H := H1
                            clear H1
                            replace H := Option.bind_eq_some_iff.mp H
                            obtain ⟨⟨t176, t177, t180, t181, t182⟩, A500, H⟩ := H
                            replace H : (if (x7_1.length : Int) = 0 then (if t182 = 4 then (footwaylaw09_QueueOrder.l0 kj45 (wrap64 (1 + (Int.tmod (wrap64 ((Int.tmod a0 8) + 8)) 8))) x7_1 x8_1 y162 (y162.length : Int) (wrap64 (x39_1 + 1)) x162000_1 x162001_1 x162002_1) else (some false)) else (if t182 = 0 then (if 0 < (x7_1.length : Int) then (if t181.toList = (rdOf ByteArray.empty x7_1 0).toList then (if 1 ≤ (x7_1.length : Int) then (footwaylaw09_QueueOrder.j3 kj45 (wrap64 (1 + (Int.tmod (wrap64 ((Int.tmod a0 8) + 8)) 8))) (x7_1.drop (1 : Int).toNat) x8_1 y162 (y162.length : Int) x39_1 t176 t177 t180) else (none)) else (some false)) else (none)) else (some false))) = some r := H
                            have A50 := Aside0.mk A500
                            clear A500
                            by_cases c51 : (x7_1.length : Int) = 0
                            · rw [if_pos c51] at H
                              have c51b0 : ((x7_1.length : Int) == 0) = true := beq_iff_eq.mpr c51
                              have c51b1 : ((x7_1.length : Int) != 0) = false := bne_eq_false_iff_eq.mpr c51
                              clear c51
                              by_cases c52 : t182 = 4
                              · rw [if_pos c52] at H
                                have c52b0 : (t182 == 4) = true := beq_iff_eq.mpr c52
                                have c52b1 : (t182 != 4) = false := bne_eq_false_iff_eq.mpr c52
                                clear c52
                                have H' := Aside0.mk H
                                clear H
                                have hcz53_0 : wc.cell? ⟨gb161, 0, none⟩ = some (.int .i64 x162000_1) := (blk_cell BK161.out 0).trans rfl
                                have hcz53_1 : wc.cell? ⟨gb161, 1, none⟩ = some (u162001) := (blk_cell BK161.out 1).trans rfl
                                have hcz53_2 : wc.cell? ⟨gb161, 2, none⟩ = some (.int .i64 x162002_1) := (blk_cell BK161.out 2).trans rfl
                                have hfz53_0 := blk_frozen BK161.out 0
                                have hfz53_1 := blk_frozen BK161.out 1
                                have hfz53_2 := blk_frozen BK161.out 2
                                obtain ⟨Ao54, co54, eo54⟩ := Kd.V_slice HO_162001.out
                                subst eo54
                                go_wp2_with (first | ((with_reducible refine gate_callee (f := 23) rfl ?_); refine goesL_ (some 105) rfl rfl Try.func23 (by kernel_rfl) rfl #[.agg #[.int .i64 x162000_1, .slice Ao54 x162001_1.length co54, .int .i64 x162002_1]] rfl (by (try simp only [List.map_toArray, List.map_cons, List.map_nil]); first | done | rfl | (simp only [List.length_drop, List.length_take]; rfl)) ?_; (with_reducible refine (queue_Pop.calls x162000_1 (fun k_ => (some k_ ≠ (u7 : Value).ownBlock ∧ k_ ≠ gb161)) _ _ x162001_1 x162002_1 t176 t177 t180 t181 t182 _ ?side1 A50.out).mono ?_); (case side1 => exact HO_162001.out); rintro e w55 ⟨v178, rfl, ho0, hb⟩; refine ⟨_, rfl, ?_⟩; have n0_ := Aside0.mk (Kd.Q_below (by (with_reducible repeat (first | apply Kd.Q_alloc | apply Kd.Q_drewN | apply Kd.Q_drew)); exact HO_7.out) hb); have n1_ := Aside0.mk (Kd.V_below (by (with_reducible repeat (first | apply Kd.V_alloc | apply Kd.V_drewN | apply Kd.V_drew)); exact HO_162001.out) hb); have n2_ := Aside0.mk (Kd.V_lower (Kd.V_mono (ok' := fun k_ => some k_ ≠ (u7 : Value).ownBlock ∧ k_ ≠ gb161) ho0 (fun k_ hk_ => ⟨Or.elim hk_ (fun hs_ => hs_.1) (fun hn_ => (Kd.fresh' (Kd.Q_lt (by (with_reducible repeat (first | apply Kd.Q_alloc | apply Kd.Q_drewN | apply Kd.Q_drew)); exact HO_7.out)) k_ hn_)), Or.elim hk_ (fun hs_ => hs_.2) (fun hn_ => (Kd.freshB (g := gb161) (o := .cells #[.int .i64 x162000_1, .slice Ao54 x162001_1.length co54, .int .i64 x162002_1] 35 (0, 0)) (by (with_reducible repeat (first | refine blk_drewN ?_ _ | refine blk_drew ?_ | refine blk_alloc ?_ _)); exact BK161.out) k_ hn_))⟩)) (below_size (by repeat (first | (with_reducible first | exact HB.out | apply below_alloc | apply pw_below_drewN | apply below_drew1 | refine below_set ?_ GE161.out) | exact HB.out)))); have n3_ := Aside0.mk (blk_below (g := gb161) (o := .cells #[.int .i64 x162000_1, .slice Ao54 x162001_1.length co54, .int .i64 x162002_1] 35 (0, 0)) (by (with_reducible repeat (first | refine blk_drewN ?_ _ | refine blk_drew ?_ | refine blk_alloc ?_ _)); exact BK161.out) hb); have n4_ := Aside0.mk (below_step (by repeat (first | (with_reducible first | exact HB.out | apply below_alloc | apply pw_below_drewN | apply below_drew1 | refine below_set ?_ GE161.out) | exact HB.out)) hb); clear HO_7; clear HO_162001; clear BK161; clear HB; have HO_7 := n0_; have HO_162001 := n1_; have HO179 := n2_; have BK161 := n3_; have HB := n4_; clear n0_ n1_ n2_ n3_ n4_; (try clear hb); (try clear hb2); (try clear hk); (try clear hi); (try clear ho0)) | ((with_reducible refine gate_dst (N := 14) rfl ?_); (try (refine gate_guard (by rfl) ?_; dsimp only)); refine box_event ?hg (N := 14) ?hd (cs := #[.int .i64 0, .slice none 0 0, .int .i64 0]) (t := 35) ?hr ?_; (case hd => rfl); (case hg => rfl); (case hr => first | (go_simp; done) | (go_simp; rfl)); intro gb183 hg w56 hbox hb; have n0_ := Aside0.mk (Kd.Q_below (by (with_reducible repeat (first | apply Kd.Q_alloc | apply Kd.Q_drewN | apply Kd.Q_drew)); exact HO_7.out) hb); have n1_ := Aside0.mk (Kd.V_below (Kd.V_elderB (by (with_reducible repeat (first | apply Kd.V_alloc | apply Kd.V_drewN | apply Kd.V_drew)); exact HO_162001.out) gb183 (Nat.le_of_eq hg.symm)) hb); have n2_ := Aside0.mk (Kd.V_below (Kd.V_elderB (by (with_reducible repeat (first | apply Kd.V_alloc | apply Kd.V_drewN | apply Kd.V_drew)); exact HO179.out) gb183 (Nat.le_of_eq hg.symm)) hb); have n3_ := Aside0.mk (blk_below (g := gb161) (o := .cells #[.int .i64 x162000_1, .slice Ao54 x162001_1.length co54, .int .i64 x162002_1] 35 (0, 0)) (by (with_reducible repeat (first | refine blk_drewN ?_ _ | refine blk_drew ?_ | refine blk_alloc ?_ _)); exact BK161.out) hb); have n4_ := Aside0.mk (below_step (by repeat (first | (with_reducible first | exact HB.out | apply below_alloc | apply pw_below_drewN | apply below_drew1 | refine below_set ?_ GE161.out) | exact HB.out)) hb); have n5_ := Aside0.mk (hbox); have n6_ := Aside0.mk ((by rw [hg]; exact (below_size (by repeat (first | (with_reducible first | exact HB.out | apply below_alloc | apply pw_below_drewN | apply below_drew1 | refine below_set ?_ GE161.out) | exact HB.out))) : w.heap.size ≤ gb183)); have n7_ := Aside0.mk ((by rw [hg]; exact (below_size (by repeat (first | (with_reducible first | exact HB.out | apply below_alloc | apply pw_below_drewN | apply below_drew1 | refine below_set ?_ GE161.out) | exact HB.out))) : w.heap.size ≤ gb183)); have n8_ := Aside0.mk ((by rw [hg]; exact Nat.ne_of_lt (blk_lt (g := gb161) (o := .cells #[.int .i64 x162000_1, .slice Ao54 x162001_1.length co54, .int .i64 x162002_1] 35 (0, 0)) (by (with_reducible repeat (first | refine blk_drewN ?_ _ | refine blk_drew ?_ | refine blk_alloc ?_ _)); exact BK161.out)) : gb161 ≠ gb183)); have n9_ := Aside0.mk ((by rw [hg]; exact Nat.ne_of_gt (blk_lt (g := gb161) (o := .cells #[.int .i64 x162000_1, .slice Ao54 x162001_1.length co54, .int .i64 x162002_1] 35 (0, 0)) (by (with_reducible repeat (first | refine blk_drewN ?_ _ | refine blk_drew ?_ | refine blk_alloc ?_ _)); exact BK161.out)) : gb183 ≠ gb161)); clear HO_7; clear HO_162001; clear HO179; clear BK161; clear HB; have HO_7 := n0_; have HO_162001 := n1_; have HO179 := n2_; have BK161 := n3_; have HB := n4_; have BK183 := n5_; have GW183 := n6_; have GE183 := n7_; have NB161_183 := n8_; have NB183_161 := n9_; clear n0_ n1_ n2_ n3_ n4_ n5_ n6_ n7_ n8_ n9_; clear hb hbox hg; have hnb57 := NB183_161.out; have hnc57 := NB161_183.out; have hcz58_0 : w56.cell? ⟨gb183, 0, none⟩ = some (.int .i64 0) := (blk_cell BK183.out 0).trans rfl; have hcz58_1 : w56.cell? ⟨gb183, 1, none⟩ = some (.slice none 0 0) := (blk_cell BK183.out 1).trans rfl; have hcz58_2 : w56.cell? ⟨gb183, 2, none⟩ = some (.int .i64 0) := (blk_cell BK183.out 2).trans rfl; have hfz58_0 := blk_frozen BK183.out 0; have hfz58_1 := blk_frozen BK183.out 1; have hfz58_2 := blk_frozen BK183.out 2; obtain ⟨Ao59, co59, eo59⟩ := Kd.V_slice HO179.out; subst eo59; obtain ⟨Ao60, co60, eo60, _⟩ := Kd.Q_slice HO_7.out; subst eo60))
                                go_roundg kj45
                                case measure => have := HK1.out; have := HJ45.out; omega
                                case rel => exact ⟨(x7_1), (x8_1), (wrap64 (x39_1 + 1)), (x162000_1), (x162001_1), (x162002_1), (.slice Ao54 x162001_1.length co54), (by first | rfl | (simp; done) | (simp [*]; done)), (by first | rfl | (simp; done) | (simp [*]; done)), H', ⟨by have := HK1.out; have := HJ45.out; omega⟩, ⟨by (with_reducible repeat (first | apply Kd.Q_alloc | apply Kd.Q_drewN | apply Kd.Q_drew)); exact Kd.Q_mono (Kd.Q_far (p := ⟨gb183, 2, none⟩) (Kd.Q_far (p := ⟨gb183, 1, none⟩) (Kd.Q_far (p := ⟨gb183, 0, none⟩) (Kd.Q_types HO_7.out BK183.out (by decide)) (fun _ hk => hk.2) (.int .i64 t176)) (fun _ hk => hk.2) (.slice Ao59 t177.length co59)) (fun _ hk => hk.2) (.int .i64 t180)) (fun _ hk => trivial)⟩, ⟨by (with_reducible repeat (first | apply Kd.V_alloc | apply Kd.V_drewN | apply Kd.V_drew)); exact Kd.V_mono (Kd.V_far (p := ⟨gb183, 2, none⟩) (Kd.V_far (p := ⟨gb183, 1, none⟩) (Kd.V_far (p := ⟨gb183, 0, none⟩) (Kd.V_mono HO_162001.out (fun k_ hk => (⟨hk, hk.2⟩ : _ ∧ k_ ≠ gb183))) (fun _ hk => hk.2) (.int .i64 t176)) (fun _ hk => hk.2) (.slice Ao59 t177.length co59)) (fun _ hk => hk.2) (.int .i64 t180)) (fun _ hk => ⟨hk.1.1.1, hk.1.1.2⟩)⟩, ⟨by (with_reducible repeat (first | refine blk_drewN ?_ _ | refine blk_drew ?_ | refine blk_alloc ?_ _)); refine blk_far ?_ NB161_183.out _; (with_reducible repeat (first | refine blk_drewN ?_ _ | refine blk_drew ?_ | refine blk_alloc ?_ _)); refine blk_far ?_ NB161_183.out _; (with_reducible repeat (first | refine blk_drewN ?_ _ | refine blk_drew ?_ | refine blk_alloc ?_ _)); refine blk_far ?_ NB161_183.out _; (with_reducible repeat (first | refine blk_drewN ?_ _ | refine blk_drew ?_ | refine blk_alloc ?_ _)); exact BK161.out⟩, ⟨by repeat (first | (with_reducible first | exact HB.out | apply below_alloc | apply pw_below_drewN | apply below_drew1 | refine below_set ?_ GE161.out | refine below_set ?_ GE183.out) | exact HB.out)⟩⟩
                              · rw [if_neg c52] at H
                                have c52b0 : (t182 == 4) = false := beq_eq_false_iff_ne.mpr c52
                                have c52b1 : (t182 != 4) = true := bne_iff_ne.mpr c52
                                obtain rfl := Option.some.inj H
                                have hcz61_0 : wc.cell? ⟨gb161, 0, none⟩ = some (.int .i64 x162000_1) := (blk_cell BK161.out 0).trans rfl
                                have hcz61_1 : wc.cell? ⟨gb161, 1, none⟩ = some (u162001) := (blk_cell BK161.out 1).trans rfl
                                have hcz61_2 : wc.cell? ⟨gb161, 2, none⟩ = some (.int .i64 x162002_1) := (blk_cell BK161.out 2).trans rfl
                                have hfz61_0 := blk_frozen BK161.out 0
                                have hfz61_1 := blk_frozen BK161.out 1
                                have hfz61_2 := blk_frozen BK161.out 2
                                obtain ⟨Ao62, co62, eo62⟩ := Kd.V_slice HO_162001.out
                                subst eo62
                                go_wp2_with (first | ((with_reducible refine gate_callee (f := 23) rfl ?_); refine goesL_ (some 105) rfl rfl Try.func23 (by kernel_rfl) rfl #[.agg #[.int .i64 x162000_1, .slice Ao62 x162001_1.length co62, .int .i64 x162002_1]] rfl (by (try simp only [List.map_toArray, List.map_cons, List.map_nil]); first | done | rfl | (simp only [List.length_drop, List.length_take]; rfl)) ?_; (with_reducible refine (queue_Pop.calls x162000_1 (fun k_ => (some k_ ≠ (u7 : Value).ownBlock ∧ k_ ≠ gb161)) _ _ x162001_1 x162002_1 t176 t177 t180 t181 t182 _ ?side1 A50.out).mono ?_); (case side1 => exact HO_162001.out); rintro e w63 ⟨v178, rfl, ho0, hb⟩; refine ⟨_, rfl, ?_⟩; have n0_ := Aside0.mk (Kd.Q_below (by (with_reducible repeat (first | apply Kd.Q_alloc | apply Kd.Q_drewN | apply Kd.Q_drew)); exact HO_7.out) hb); have n1_ := Aside0.mk (Kd.V_below (by (with_reducible repeat (first | apply Kd.V_alloc | apply Kd.V_drewN | apply Kd.V_drew)); exact HO_162001.out) hb); have n2_ := Aside0.mk (Kd.V_lower (Kd.V_mono (ok' := fun k_ => some k_ ≠ (u7 : Value).ownBlock ∧ k_ ≠ gb161) ho0 (fun k_ hk_ => ⟨Or.elim hk_ (fun hs_ => hs_.1) (fun hn_ => (Kd.fresh' (Kd.Q_lt (by (with_reducible repeat (first | apply Kd.Q_alloc | apply Kd.Q_drewN | apply Kd.Q_drew)); exact HO_7.out)) k_ hn_)), Or.elim hk_ (fun hs_ => hs_.2) (fun hn_ => (Kd.freshB (g := gb161) (o := .cells #[.int .i64 x162000_1, .slice Ao62 x162001_1.length co62, .int .i64 x162002_1] 35 (0, 0)) (by (with_reducible repeat (first | refine blk_drewN ?_ _ | refine blk_drew ?_ | refine blk_alloc ?_ _)); exact BK161.out) k_ hn_))⟩)) (below_size (by repeat (first | (with_reducible first | exact HB.out | apply below_alloc | apply pw_below_drewN | apply below_drew1 | refine below_set ?_ GE161.out) | exact HB.out)))); have n3_ := Aside0.mk (blk_below (g := gb161) (o := .cells #[.int .i64 x162000_1, .slice Ao62 x162001_1.length co62, .int .i64 x162002_1] 35 (0, 0)) (by (with_reducible repeat (first | refine blk_drewN ?_ _ | refine blk_drew ?_ | refine blk_alloc ?_ _)); exact BK161.out) hb); have n4_ := Aside0.mk (below_step (by repeat (first | (with_reducible first | exact HB.out | apply below_alloc | apply pw_below_drewN | apply below_drew1 | refine below_set ?_ GE161.out) | exact HB.out)) hb); clear HO_7; clear HO_162001; clear BK161; clear HB; have HO_7 := n0_; have HO_162001 := n1_; have HO179 := n2_; have BK161 := n3_; have HB := n4_; clear n0_ n1_ n2_ n3_ n4_; (try clear hb); (try clear hb2); (try clear hk); (try clear hi); (try clear ho0)) | ((with_reducible refine gate_dst (N := 14) rfl ?_); (try (refine gate_guard (by rfl) ?_; dsimp only)); refine box_event ?hg (N := 14) ?hd (cs := #[.int .i64 0, .slice none 0 0, .int .i64 0]) (t := 35) ?hr ?_; (case hd => rfl); (case hg => rfl); (case hr => first | (go_simp; done) | (go_simp; rfl)); intro gb183 hg w64 hbox hb; have n0_ := Aside0.mk (Kd.Q_below (by (with_reducible repeat (first | apply Kd.Q_alloc | apply Kd.Q_drewN | apply Kd.Q_drew)); exact HO_7.out) hb); have n1_ := Aside0.mk (Kd.V_below (Kd.V_elderB (by (with_reducible repeat (first | apply Kd.V_alloc | apply Kd.V_drewN | apply Kd.V_drew)); exact HO_162001.out) gb183 (Nat.le_of_eq hg.symm)) hb); have n2_ := Aside0.mk (Kd.V_below (Kd.V_elderB (by (with_reducible repeat (first | apply Kd.V_alloc | apply Kd.V_drewN | apply Kd.V_drew)); exact HO179.out) gb183 (Nat.le_of_eq hg.symm)) hb); have n3_ := Aside0.mk (blk_below (g := gb161) (o := .cells #[.int .i64 x162000_1, .slice Ao62 x162001_1.length co62, .int .i64 x162002_1] 35 (0, 0)) (by (with_reducible repeat (first | refine blk_drewN ?_ _ | refine blk_drew ?_ | refine blk_alloc ?_ _)); exact BK161.out) hb); have n4_ := Aside0.mk (below_step (by repeat (first | (with_reducible first | exact HB.out | apply below_alloc | apply pw_below_drewN | apply below_drew1 | refine below_set ?_ GE161.out) | exact HB.out)) hb); have n5_ := Aside0.mk (hbox); have n6_ := Aside0.mk ((by rw [hg]; exact (below_size (by repeat (first | (with_reducible first | exact HB.out | apply below_alloc | apply pw_below_drewN | apply below_drew1 | refine below_set ?_ GE161.out) | exact HB.out))) : w.heap.size ≤ gb183)); have n7_ := Aside0.mk ((by rw [hg]; exact (below_size (by repeat (first | (with_reducible first | exact HB.out | apply below_alloc | apply pw_below_drewN | apply below_drew1 | refine below_set ?_ GE161.out) | exact HB.out))) : w.heap.size ≤ gb183)); have n8_ := Aside0.mk ((by rw [hg]; exact Nat.ne_of_lt (blk_lt (g := gb161) (o := .cells #[.int .i64 x162000_1, .slice Ao62 x162001_1.length co62, .int .i64 x162002_1] 35 (0, 0)) (by (with_reducible repeat (first | refine blk_drewN ?_ _ | refine blk_drew ?_ | refine blk_alloc ?_ _)); exact BK161.out)) : gb161 ≠ gb183)); have n9_ := Aside0.mk ((by rw [hg]; exact Nat.ne_of_gt (blk_lt (g := gb161) (o := .cells #[.int .i64 x162000_1, .slice Ao62 x162001_1.length co62, .int .i64 x162002_1] 35 (0, 0)) (by (with_reducible repeat (first | refine blk_drewN ?_ _ | refine blk_drew ?_ | refine blk_alloc ?_ _)); exact BK161.out)) : gb183 ≠ gb161)); clear HO_7; clear HO_162001; clear HO179; clear BK161; clear HB; have HO_7 := n0_; have HO_162001 := n1_; have HO179 := n2_; have BK161 := n3_; have HB := n4_; have BK183 := n5_; have GW183 := n6_; have GE183 := n7_; have NB161_183 := n8_; have NB183_161 := n9_; clear n0_ n1_ n2_ n3_ n4_ n5_ n6_ n7_ n8_ n9_; clear hb hbox hg; have hnb65 := NB183_161.out; have hnc65 := NB161_183.out; have hcz66_0 : w64.cell? ⟨gb183, 0, none⟩ = some (.int .i64 0) := (blk_cell BK183.out 0).trans rfl; have hcz66_1 : w64.cell? ⟨gb183, 1, none⟩ = some (.slice none 0 0) := (blk_cell BK183.out 1).trans rfl; have hcz66_2 : w64.cell? ⟨gb183, 2, none⟩ = some (.int .i64 0) := (blk_cell BK183.out 2).trans rfl; have hfz66_0 := blk_frozen BK183.out 0; have hfz66_1 := blk_frozen BK183.out 1; have hfz66_2 := blk_frozen BK183.out 2; obtain ⟨Ao67, co67, eo67⟩ := Kd.V_slice HO179.out; subst eo67; obtain ⟨Ao68, co68, eo68, _⟩ := Kd.Q_slice HO_7.out; subst eo68))
                                go_ret
                                exact ⟨by first | rfl | (simp [errW_none, errW_some] <;> rfl) | (simp only [← hji5]; first | rfl | (simp [errW_none, errW_some] <;> rfl)) | (simp [*, errW_none, errW_some] <;> rfl), by repeat (first | (with_reducible first | exact HB.out | apply below_alloc | apply pw_below_drewN | apply below_drew1 | refine below_set ?_ GE161.out | refine below_set ?_ GE183.out) | exact HB.out)⟩
                            · rw [if_neg c51] at H
                              have c51b0 : ((x7_1.length : Int) == 0) = false := beq_eq_false_iff_ne.mpr c51
                              have c51b1 : ((x7_1.length : Int) != 0) = true := bne_iff_ne.mpr c51
                              have c51b2 : ¬ (x7_1 = []) := fun h_ => c51 (by rw [h_]; rfl)
                              by_cases c69 : t182 = 0
                              · rw [if_pos c69] at H
                                have c69b0 : (t182 == 0) = true := beq_iff_eq.mpr c69
                                have c69b1 : (t182 != 0) = false := bne_eq_false_iff_eq.mpr c69
                                clear c69
                                by_cases c70 : 0 < (x7_1.length : Int)
                                · rw [if_pos c70] at H
                                  have c70b0 : decide (0 < (x7_1.length : Int)) = true := decide_eq_true c70
                                  have c70b1 : decide (0 < x7_1.length) = true := decide_eq_true (by omega)
                                  clear c70
                                  by_cases c71 : t181.toList = (rdOf ByteArray.empty x7_1 0).toList
                                  · rw [if_pos c71] at H
                                    have c71b0 : (t181.toList == (rdOf ByteArray.empty x7_1 0).toList) = true := beq_iff_eq.mpr c71
                                    have c71b1 : (t181.toList != (rdOf ByteArray.empty x7_1 0).toList) = false := bne_eq_false_iff_eq.mpr c71
                                    clear c71
                                    by_cases c72 : 1 ≤ (x7_1.length : Int)
                                    · rw [if_pos c72] at H
                                      have c72b0 := eq_true c72
                                      have c72b1 : decide (1 ≤ (x7_1.length : Int)) = true := decide_eq_true c72
                                      clear c72
                                      obtain ⟨y185, hy185⟩ : ∃ y_ : List ByteArray, y_ = (x7_1.drop (1 : Int).toNat) := ⟨_, rfl⟩
                                      replace H : (footwaylaw09_QueueOrder.j3 kj45 (wrap64 (1 + (Int.tmod (wrap64 ((Int.tmod a0 8) + 8)) 8))) y185 x8_1 y162 (y162.length : Int) x39_1 t176 t177 t180) = some r := by first | (rw [hy185]; with_reducible exact H) | (have H2_ := (Option.bind_some _ _).symm.trans H; rw [hy185]; with_reducible exact H2_) | (have H2_ := (Option.bind_some _ _).symm.trans H; with_reducible exact H2_) | with_reducible exact H | (rw [hy185]; exact H) | exact H
                                      have Ny185 := Aside0.mk hy185
                                      clear hy185
                                      have H' := Aside0.mk H
                                      clear H
                                      have hcz73_0 : wc.cell? ⟨gb161, 0, none⟩ = some (.int .i64 x162000_1) := (blk_cell BK161.out 0).trans rfl
                                      have hcz73_1 : wc.cell? ⟨gb161, 1, none⟩ = some (u162001) := (blk_cell BK161.out 1).trans rfl
                                      have hcz73_2 : wc.cell? ⟨gb161, 2, none⟩ = some (.int .i64 x162002_1) := (blk_cell BK161.out 2).trans rfl
                                      have hfz73_0 := blk_frozen BK161.out 0
                                      have hfz73_1 := blk_frozen BK161.out 1
                                      have hfz73_2 := blk_frozen BK161.out 2
                                      obtain ⟨Ao74, co74, eo74⟩ := Kd.V_slice HO_162001.out
                                      subst eo74
                                      try go_wp2_with (first | ((with_reducible refine gate_callee (f := 23) rfl ?_); refine goesL_ (some 105) rfl rfl Try.func23 (by kernel_rfl) rfl #[.agg #[.int .i64 x162000_1, .slice Ao74 x162001_1.length co74, .int .i64 x162002_1]] rfl (by (try simp only [List.map_toArray, List.map_cons, List.map_nil]); first | done | rfl | (simp only [List.length_drop, List.length_take]; rfl)) ?_; (with_reducible refine (queue_Pop.calls x162000_1 (fun k_ => (some k_ ≠ (u7 : Value).ownBlock ∧ k_ ≠ gb161)) _ _ x162001_1 x162002_1 t176 t177 t180 t181 t182 _ ?side1 A50.out).mono ?_); (case side1 => exact HO_162001.out); rintro e w75 ⟨v178, rfl, ho0, hb⟩; refine ⟨_, rfl, ?_⟩; have n0_ := Aside0.mk (Kd.Q_below (by (with_reducible repeat (first | apply Kd.Q_alloc | apply Kd.Q_drewN | apply Kd.Q_drew)); exact HO_7.out) hb); have n1_ := Aside0.mk (Kd.V_below (by (with_reducible repeat (first | apply Kd.V_alloc | apply Kd.V_drewN | apply Kd.V_drew)); exact HO_162001.out) hb); have n2_ := Aside0.mk (Kd.V_lower (Kd.V_mono (ok' := fun k_ => some k_ ≠ (u7 : Value).ownBlock ∧ k_ ≠ gb161) ho0 (fun k_ hk_ => ⟨Or.elim hk_ (fun hs_ => hs_.1) (fun hn_ => (Kd.fresh' (Kd.Q_lt (by (with_reducible repeat (first | apply Kd.Q_alloc | apply Kd.Q_drewN | apply Kd.Q_drew)); exact HO_7.out)) k_ hn_)), Or.elim hk_ (fun hs_ => hs_.2) (fun hn_ => (Kd.freshB (g := gb161) (o := .cells #[.int .i64 x162000_1, .slice Ao74 x162001_1.length co74, .int .i64 x162002_1] 35 (0, 0)) (by (with_reducible repeat (first | refine blk_drewN ?_ _ | refine blk_drew ?_ | refine blk_alloc ?_ _)); exact BK161.out) k_ hn_))⟩)) (below_size (by repeat (first | (with_reducible first | exact HB.out | apply below_alloc | apply pw_below_drewN | apply below_drew1 | refine below_set ?_ GE161.out) | exact HB.out)))); have n3_ := Aside0.mk (blk_below (g := gb161) (o := .cells #[.int .i64 x162000_1, .slice Ao74 x162001_1.length co74, .int .i64 x162002_1] 35 (0, 0)) (by (with_reducible repeat (first | refine blk_drewN ?_ _ | refine blk_drew ?_ | refine blk_alloc ?_ _)); exact BK161.out) hb); have n4_ := Aside0.mk (below_step (by repeat (first | (with_reducible first | exact HB.out | apply below_alloc | apply pw_below_drewN | apply below_drew1 | refine below_set ?_ GE161.out) | exact HB.out)) hb); clear HO_7; clear HO_162001; clear BK161; clear HB; have HO_7 := n0_; have HO_162001 := n1_; have HO179 := n2_; have BK161 := n3_; have HB := n4_; clear n0_ n1_ n2_ n3_ n4_; (try clear hb); (try clear hb2); (try clear hk); (try clear hi); (try clear ho0)) | ((with_reducible refine gate_dst (N := 14) rfl ?_); (try (refine gate_guard (by rfl) ?_; dsimp only)); refine box_event ?hg (N := 14) ?hd (cs := #[.int .i64 0, .slice none 0 0, .int .i64 0]) (t := 35) ?hr ?_; (case hd => rfl); (case hg => rfl); (case hr => first | (go_simp; done) | (go_simp; rfl)); intro gb183 hg w76 hbox hb; have n0_ := Aside0.mk (Kd.Q_below (by (with_reducible repeat (first | apply Kd.Q_alloc | apply Kd.Q_drewN | apply Kd.Q_drew)); exact HO_7.out) hb); have n1_ := Aside0.mk (Kd.V_below (Kd.V_elderB (by (with_reducible repeat (first | apply Kd.V_alloc | apply Kd.V_drewN | apply Kd.V_drew)); exact HO_162001.out) gb183 (Nat.le_of_eq hg.symm)) hb); have n2_ := Aside0.mk (Kd.V_below (Kd.V_elderB (by (with_reducible repeat (first | apply Kd.V_alloc | apply Kd.V_drewN | apply Kd.V_drew)); exact HO179.out) gb183 (Nat.le_of_eq hg.symm)) hb); have n3_ := Aside0.mk (blk_below (g := gb161) (o := .cells #[.int .i64 x162000_1, .slice Ao74 x162001_1.length co74, .int .i64 x162002_1] 35 (0, 0)) (by (with_reducible repeat (first | refine blk_drewN ?_ _ | refine blk_drew ?_ | refine blk_alloc ?_ _)); exact BK161.out) hb); have n4_ := Aside0.mk (below_step (by repeat (first | (with_reducible first | exact HB.out | apply below_alloc | apply pw_below_drewN | apply below_drew1 | refine below_set ?_ GE161.out) | exact HB.out)) hb); have n5_ := Aside0.mk (hbox); have n6_ := Aside0.mk ((by rw [hg]; exact (below_size (by repeat (first | (with_reducible first | exact HB.out | apply below_alloc | apply pw_below_drewN | apply below_drew1 | refine below_set ?_ GE161.out) | exact HB.out))) : w.heap.size ≤ gb183)); have n7_ := Aside0.mk ((by rw [hg]; exact (below_size (by repeat (first | (with_reducible first | exact HB.out | apply below_alloc | apply pw_below_drewN | apply below_drew1 | refine below_set ?_ GE161.out) | exact HB.out))) : w.heap.size ≤ gb183)); have n8_ := Aside0.mk ((by rw [hg]; exact Nat.ne_of_lt (blk_lt (g := gb161) (o := .cells #[.int .i64 x162000_1, .slice Ao74 x162001_1.length co74, .int .i64 x162002_1] 35 (0, 0)) (by (with_reducible repeat (first | refine blk_drewN ?_ _ | refine blk_drew ?_ | refine blk_alloc ?_ _)); exact BK161.out)) : gb161 ≠ gb183)); have n9_ := Aside0.mk ((by rw [hg]; exact Nat.ne_of_gt (blk_lt (g := gb161) (o := .cells #[.int .i64 x162000_1, .slice Ao74 x162001_1.length co74, .int .i64 x162002_1] 35 (0, 0)) (by (with_reducible repeat (first | refine blk_drewN ?_ _ | refine blk_drew ?_ | refine blk_alloc ?_ _)); exact BK161.out)) : gb183 ≠ gb161)); clear HO_7; clear HO_162001; clear HO179; clear BK161; clear HB; have HO_7 := n0_; have HO_162001 := n1_; have HO179 := n2_; have BK161 := n3_; have HB := n4_; have BK183 := n5_; have GW183 := n6_; have GE183 := n7_; have NB161_183 := n8_; have NB183_161 := n9_; clear n0_ n1_ n2_ n3_ n4_ n5_ n6_ n7_ n8_ n9_; clear hb hbox hg; have hnb77 := NB183_161.out; have hnc77 := NB161_183.out; have hcz78_0 : w76.cell? ⟨gb183, 0, none⟩ = some (.int .i64 0) := (blk_cell BK183.out 0).trans rfl; have hcz78_1 : w76.cell? ⟨gb183, 1, none⟩ = some (.slice none 0 0) := (blk_cell BK183.out 1).trans rfl; have hcz78_2 : w76.cell? ⟨gb183, 2, none⟩ = some (.int .i64 0) := (blk_cell BK183.out 2).trans rfl; have hfz78_0 := blk_frozen BK183.out 0; have hfz78_1 := blk_frozen BK183.out 1; have hfz78_2 := blk_frozen BK183.out 2; obtain ⟨Ao79, co79, eo79⟩ := Kd.V_slice HO179.out; subst eo79; obtain ⟨Ao80, co80, eo80, _⟩ := Kd.Q_slice HO_7.out; subst eo80; have p184 : 0 ≤ (0 : Int) := (by omega); have q184 : 0 < (x7_1.length : Int) := of_decide_eq_true (by first | (with_reducible assumption) | assumption); obtain ⟨ad184, e184, hx184_0⟩ := Kd.at_string (Kd.Q_reads' HO_7.out).2.2 0 p184 q184; cases e184; have qi184 : (0 < x7_1.length) = True := eq_true (by omega); (try rw [show ((0 : Int)).toNat = 0 from rfl] at hx184_0); (try rw [Addr.add_zero'] at hx184_0); have hn184_0 : ad184.block ≠ gb183 := Kd.own_blk (Kd.Q_ne HO_7.out BK183.out (by decide)); have hn184_1 : ad184.block ≠ gb183 := Kd.own_blk (Kd.Q_ne HO_7.out BK183.out (by decide)); have hn184_2 : ad184.block ≠ gb183 := Kd.own_blk (Kd.Q_ne HO_7.out BK183.out (by decide)); replace hx184_0 := (cell_far (p := ⟨gb183, 0, none⟩) (by first | (rw [add_block]; exact hn184_0) | (show (Addr.add _ _).block ≠ _; rw [add_block]; exact hn184_0) | exact hn184_0) (.int .i64 t176)).trans hx184_0; replace hx184_0 := (cell_far (p := ⟨gb183, 1, none⟩) (by first | (rw [add_block]; exact hn184_1) | (show (Addr.add _ _).block ≠ _; rw [add_block]; exact hn184_1) | exact hn184_1) (.slice Ao79 t177.length co79)).trans hx184_0; replace hx184_0 := (cell_far (p := ⟨gb183, 2, none⟩) (by first | (rw [add_block]; exact hn184_2) | (show (Addr.add _ _).block ≠ _; rw [add_block]; exact hn184_2) | exact hn184_2) (.int .i64 t180)).trans hx184_0; clear hn184_0; clear hn184_1; clear hn184_2; replace p184 := eq_true p184; replace q184 := eq_true q184))
                                      have n0_ : Aside0 (Kd.Q Kd.string 9 (((w76.setCell ⟨gb183, 0, none⟩ (.int .i64 t176)).setCell ⟨gb183, 1, none⟩ (.slice Ao79 t177.length co79)).setCell ⟨gb183, 2, none⟩ (.int .i64 t180)) w.heap.size (fun _ => True) (.slice (some ad184) x7_1.length co80) x7_1) := ⟨by (with_reducible repeat (first | apply Kd.Q_alloc | apply Kd.Q_drewN | apply Kd.Q_drew)); exact Kd.Q_mono (Kd.Q_far (p := ⟨gb183, 2, none⟩) (Kd.Q_far (p := ⟨gb183, 1, none⟩) (Kd.Q_far (p := ⟨gb183, 0, none⟩) (Kd.Q_types HO_7.out BK183.out (by decide)) (fun _ hk => hk.2) (.int .i64 t176)) (fun _ hk => hk.2) (.slice Ao79 t177.length co79)) (fun _ hk => hk.2) (.int .i64 t180)) (fun _ hk => trivial)⟩
                                      have n1_ : Aside0 (Kd.V Kd.string 9 (((w76.setCell ⟨gb183, 0, none⟩ (.int .i64 t176)).setCell ⟨gb183, 1, none⟩ (.slice Ao79 t177.length co79)).setCell ⟨gb183, 2, none⟩ (.int .i64 t180)) w.heap.size (fun k_ => some k_ ≠ (.slice (some ad184) x7_1.length co80 : Value).ownBlock ∧ k_ ≠ gb161 ∧ k_ ≠ gb183) (.slice Ao74 x162001_1.length co74) x162001_1) := ⟨by (with_reducible repeat (first | apply Kd.V_alloc | apply Kd.V_drewN | apply Kd.V_drew)); exact Kd.V_mono (Kd.V_far (p := ⟨gb183, 2, none⟩) (Kd.V_far (p := ⟨gb183, 1, none⟩) (Kd.V_far (p := ⟨gb183, 0, none⟩) (Kd.V_mono HO_162001.out (fun k_ hk => (⟨hk, hk.2⟩ : _ ∧ k_ ≠ gb183))) (fun _ hk => hk.2) (.int .i64 t176)) (fun _ hk => hk.2) (.slice Ao79 t177.length co79)) (fun _ hk => hk.2) (.int .i64 t180)) (fun _ hk => ⟨hk.1.1.1, ⟨hk.1.1.2, hk.1.2⟩⟩)⟩
                                      have n2_ : Aside0 (Kd.V Kd.string 9 (((w76.setCell ⟨gb183, 0, none⟩ (.int .i64 t176)).setCell ⟨gb183, 1, none⟩ (.slice Ao79 t177.length co79)).setCell ⟨gb183, 2, none⟩ (.int .i64 t180)) w.heap.size (fun k_ => some k_ ≠ (.slice (some ad184) x7_1.length co80 : Value).ownBlock ∧ k_ ≠ gb161 ∧ k_ ≠ gb183) (.slice Ao79 t177.length co79) t177) := ⟨by (with_reducible repeat (first | apply Kd.V_alloc | apply Kd.V_drewN | apply Kd.V_drew)); exact Kd.V_mono (Kd.V_far (p := ⟨gb183, 2, none⟩) (Kd.V_far (p := ⟨gb183, 1, none⟩) (Kd.V_far (p := ⟨gb183, 0, none⟩) (Kd.V_mono HO179.out (fun k_ hk => (⟨hk, hk.2⟩ : _ ∧ k_ ≠ gb183))) (fun _ hk => hk.2) (.int .i64 t176)) (fun _ hk => hk.2) (.slice Ao79 t177.length co79)) (fun _ hk => hk.2) (.int .i64 t180)) (fun _ hk => ⟨hk.1.1.1, ⟨hk.1.1.2, hk.1.2⟩⟩)⟩
                                      have n3_ : Aside0 ((((w76.setCell ⟨gb183, 0, none⟩ (.int .i64 t176)).setCell ⟨gb183, 1, none⟩ (.slice Ao79 t177.length co79)).setCell ⟨gb183, 2, none⟩ (.int .i64 t180)).heap[gb161]? = some (.cells #[.int .i64 x162000_1, .slice Ao74 x162001_1.length co74, .int .i64 x162002_1] 35 (0, 0))) := ⟨by (with_reducible repeat (first | refine blk_drewN ?_ _ | refine blk_drew ?_ | refine blk_alloc ?_ _)); refine blk_far ?_ NB161_183.out _; (with_reducible repeat (first | refine blk_drewN ?_ _ | refine blk_drew ?_ | refine blk_alloc ?_ _)); refine blk_far ?_ NB161_183.out _; (with_reducible repeat (first | refine blk_drewN ?_ _ | refine blk_drew ?_ | refine blk_alloc ?_ _)); refine blk_far ?_ NB161_183.out _; (with_reducible repeat (first | refine blk_drewN ?_ _ | refine blk_drew ?_ | refine blk_alloc ?_ _)); exact BK161.out⟩
                                      have n4_ : Aside0 ((((w76.setCell ⟨gb183, 0, none⟩ (.int .i64 t176)).setCell ⟨gb183, 1, none⟩ (.slice Ao79 t177.length co79)).setCell ⟨gb183, 2, none⟩ (.int .i64 t180)).heap[gb183]? = some (.cells #[.int .i64 t176, .slice Ao79 t177.length co79, .int .i64 t180] 35 (0, 0))) := ⟨by (with_reducible repeat (first | refine blk_drewN ?_ _ | refine blk_drew ?_ | refine blk_alloc ?_ _)); refine blk_put (cs := #[.int .i64 t176, .slice Ao79 t177.length co79, .int .i64 0]) ?_ 2 _ rfl; (with_reducible repeat (first | refine blk_drewN ?_ _ | refine blk_drew ?_ | refine blk_alloc ?_ _)); refine blk_put (cs := #[.int .i64 t176, .slice none 0 0, .int .i64 0]) ?_ 1 _ rfl; (with_reducible repeat (first | refine blk_drewN ?_ _ | refine blk_drew ?_ | refine blk_alloc ?_ _)); refine blk_put (cs := #[.int .i64 0, .slice none 0 0, .int .i64 0]) ?_ 0 _ rfl; (with_reducible repeat (first | refine blk_drewN ?_ _ | refine blk_drew ?_ | refine blk_alloc ?_ _)); exact BK183.out⟩
                                      have n5_ : Aside0 (Below w.heap.size w (((w76.setCell ⟨gb183, 0, none⟩ (.int .i64 t176)).setCell ⟨gb183, 1, none⟩ (.slice Ao79 t177.length co79)).setCell ⟨gb183, 2, none⟩ (.int .i64 t180))) := ⟨by repeat (first | (with_reducible first | exact HB.out | apply below_alloc | apply pw_below_drewN | apply below_drew1 | refine below_set ?_ GE161.out | refine below_set ?_ GE183.out) | exact HB.out)⟩
                                      (try clear HO_7)
                                      (try clear HO_162001)
                                      (try clear HO179)
                                      (try clear BK161)
                                      (try clear BK183)
                                      (try clear HB)
                                      generalize (((w76.setCell ⟨gb183, 0, none⟩ (.int .i64 t176)).setCell ⟨gb183, 1, none⟩ (.slice Ao79 t177.length co79)).setCell ⟨gb183, 2, none⟩ (.int .i64 t180)) = w81 at n0_ n1_ n2_ n3_ n4_ n5_ ⊢
                                      have HO_7 := n0_
                                      have HO_162001 := n1_
                                      have HO179 := n2_
                                      have BK161 := n3_
                                      have BK183 := n4_
                                      have HB := n5_
                                      clear n0_ n1_ n2_ n3_ n4_ n5_
                                      have n0_ := Aside0.mk (Kd.Q_drew HO_7.out)
                                      have n1_ := Aside0.mk (Kd.V_drew HO_162001.out)
                                      have n2_ := Aside0.mk (Kd.V_drew HO179.out)
                                      have n3_ := Aside0.mk (blk_drew BK161.out)
                                      have n4_ := Aside0.mk (blk_drew BK183.out)
                                      have n5_ := Aside0.mk (below_drew1 HB.out)
                                      clear HO_7
                                      clear HO_162001
                                      clear HO179
                                      clear BK161
                                      clear BK183
                                      clear HB
                                      have HO_7 := n0_
                                      have HO_162001 := n1_
                                      have HO179 := n2_
                                      have BK161 := n3_
                                      have BK183 := n4_
                                      have HB := n5_
                                      clear n0_ n1_ n2_ n3_ n4_ n5_
                                      have q83 : (1 : Int) ≤ ((x7_1.length : Int) : Int) := of_decide_eq_true (by first | (with_reducible assumption) | assumption)
                                      obtain ⟨i083, hi083, _, hsz83, _⟩ := info_parts info9
                                      have hcut83 := cut_from (P := Try.prog) 33 9 .i64 Try.underlying33 hi083 1 hsz83 (some ad184) x7_1.length co80 1 (by omega) q83
                                      have hr83 := Kd.Q_drop (k := (1 : Int).toNat) HO_7.out (by omega)
                                      obtain ⟨A83, hA83⟩ : ∃ A1, A1 = (if co80 = (1 : Int).toNat then (some ad184) else ((some ad184) : Option Addr).map (·.add ((1 : Int).toNat * 1))) := ⟨_, rfl⟩
                                      obtain ⟨c83, hc83⟩ : ∃ c1, c1 = co80 - (1 : Int).toNat := ⟨_, rfl⟩
                                      have hy83 : y185.length = x7_1.length - (1 : Int).toNat := (by rw [Ny185.out, List.length_drop])
                                      rw [← Ny185.out] at hr83
                                      rw [← hy83, ← hA83, ← hc83] at hcut83
                                      replace hr83 : Kd.Q Kd.string 9 w81.drew w.heap.size (fun _ => True) (.slice A83 y185.length c83) y185 := (by rw [hA83, hc83, hy83]; exact hr83)
                                      have HE83 : Aside0 ((Value.slice A83 y185.length c83).ownBlock = (.slice (some ad184) x7_1.length co80 : Value).ownBlock) := ⟨by rw [hA83]; split <;> (cases ((some ad184) : Option Addr) <;> rfl)⟩
                                      clear hy83 hi083 hsz83 HO_7 hA83 hc83
                                      have HO187 := Aside0.mk hr83
                                      clear hr83
                                      replace q83 := eq_true q83
                                      have n_ := Aside0.mk (Kd.V_mono (ok' := fun k_ => (some k_ ≠ (.slice A83 y185.length c83 : Value).ownBlock ∧ (k_ ≠ gb161 ∧ k_ ≠ gb183))) HO_162001.out (fun k_ hk => ⟨(by rw [HE83.out]; exact hk.1), ⟨hk.2.1, hk.2.2⟩⟩))
                                      clear HO_162001
                                      have HO_162001 := n_
                                      clear n_
                                      have n_ := Aside0.mk (Kd.V_mono (ok' := fun k_ => (some k_ ≠ (.slice A83 y185.length c83 : Value).ownBlock ∧ (k_ ≠ gb161 ∧ k_ ≠ gb183))) HO179.out (fun k_ hk => ⟨(by rw [HE83.out]; exact hk.1), ⟨hk.2.1, hk.2.2⟩⟩))
                                      clear HO179
                                      have HO179 := n_
                                      clear n_
                                      refine start_ (n := 5) (S := fun w' => w'.cell? ⟨gb183, 0, none⟩ = some (.int .i64 t176) ∧ w'.cell? ⟨gb183, 1, none⟩ = some (.slice Ao79 t177.length co79) ∧ w'.cell? ⟨gb183, 2, none⟩ = some (.int .i64 t180)) (ds := []) #[false, false, false, false, false] (by kernel_rfl) rfl rfl ⟨(blk_cell BK183.out 0).trans rfl, (blk_cell BK183.out 1).trans rfl, (blk_cell BK183.out 2).trans rfl⟩ (fun hHeld => ?_)
                                      generalize w81.drew = w82 at HO_7 HO_162001 HO179 BK161 BK183 HB HO187 hHeld ⊢
                                      refine pure_ (i := 1) (N := some 124) (v := ?_) (a' := ?_) #[false, true, false, false, false] rfl rfl (by kernel_rfl) (fun _ _ _ h => h) (Or.inl ⟨by rfl, ?_⟩) ?_ ?_
                                      rotate_left
                                      · intro w'
                                        go_simp
                                        with_reducible rfl
                                      rotate_left
                                      · simp only [Act.put, List.setIfInBounds_toArray, List.set_cons_zero, List.set_cons_succ, i64_w, i32_w]
                                        rfl
                                      refine pure_ (i := 2) (N := some 125) (v := ?_) (a' := ?_) #[false, true, true, false, false] rfl rfl (by kernel_rfl) (fun _ _ _ h => h) (Or.inl ⟨by rfl, ?_⟩) ?_ ?_
                                      rotate_left
                                      · intro w'
                                        go_simp
                                        with_reducible rfl
                                      rotate_left
                                      · simp only [Act.put, List.setIfInBounds_toArray, List.set_cons_zero, List.set_cons_succ, i64_w, i32_w]
                                        rfl
                                      refine take_ (i := 0) (N := some 123) (v := ?_) (a' := ?_) #[true, true, true, false, false] rfl rfl (by kernel_rfl) (fun _ _ _ h => h) (Or.inl ⟨by rfl, ?_⟩) hHeld ?_ ?_
                                      rotate_left
                                      · rintro w' ⟨s0, s1, s2⟩
                                        go_simp
                                        with_reducible rfl
                                      rotate_left
                                      · simp only [Act.put, List.setIfInBounds_toArray, List.set_cons_zero, List.set_cons_succ, i64_w, i32_w]
                                        rfl
                                      refine one_ (i := 3) (N := none) #[true, true, true, true, false] rfl rfl (by kernel_rfl) (by decide) (fun K hK => ?_)
                                      have hs84 : w82.cell? ⟨gb161, 0, none⟩ = some (.int .i64 x162000_1) := (blk_cell BK161.out 0).trans rfl
                                      have hfs84 := blk_frozen BK161.out 0
                                      have hns84_1 := NB183_161.out
                                      have hms84_1 := NB161_183.out
                                      have hs85 : w82.cell? ⟨gb161, 1, none⟩ = some (.slice Ao74 x162001_1.length co74) := (blk_cell BK161.out 1).trans rfl
                                      have hfs85 := blk_frozen BK161.out 1
                                      have hns85_1 := NB183_161.out
                                      have hms85_1 := NB161_183.out
                                      have hs86 : w82.cell? ⟨gb161, 2, none⟩ = some (.int .i64 x162002_1) := (blk_cell BK161.out 2).trans rfl
                                      have hfs86 := blk_frozen BK161.out 2
                                      have hns86_1 := NB183_161.out
                                      have hms86_1 := NB161_183.out
                                      refine skip_ (w1 := ?_) (by rfl) rfl ?_ ?_
                                      rotate_left
                                      · go_simp
                                        rfl
                                      refine hK.out _ _ ⟨((cell_far (p := ⟨gb161, _, none⟩) NB183_161.out _).trans (((cell_far (p := ⟨gb161, _, none⟩) NB183_161.out _).trans (((cell_far (p := ⟨gb161, _, none⟩) NB183_161.out _).trans (hHeld.1)))))), ((cell_far (p := ⟨gb161, _, none⟩) NB183_161.out _).trans (((cell_far (p := ⟨gb161, _, none⟩) NB183_161.out _).trans (((cell_far (p := ⟨gb161, _, none⟩) NB183_161.out _).trans (hHeld.2.1)))))), ((cell_far (p := ⟨gb161, _, none⟩) NB183_161.out _).trans (((cell_far (p := ⟨gb161, _, none⟩) NB183_161.out _).trans (((cell_far (p := ⟨gb161, _, none⟩) NB183_161.out _).trans (hHeld.2.2))))))⟩ (fun hHeld => ?_)
                                      clear hK K
                                      refine pure_ (i := 4) (N := some 7) (v := ?_) (a' := ?_) #[true, true, true, true, true] rfl rfl (by kernel_rfl) (fun _ _ _ h => h) (Or.inl ⟨by rfl, ?_⟩) ?_ ?_
                                      rotate_left
                                      · intro w'
                                        go_simp
                                        with_reducible rfl
                                      rotate_left
                                      · simp only [Act.put, List.setIfInBounds_toArray, List.set_cons_zero, List.set_cons_succ, i64_w, i32_w]
                                        rfl
                                      refine done_ (by kernel_rfl) ?_
                                      try go_wp2
                                      go_meet
                                      case rel => exact ⟨_, (y185), (x8_1), (t176), (t177), (t180), (.slice Ao79 t177.length co79), (by first | rfl | (simp; done) | (simp [*]; done)), H', ⟨by have := HK1.out; have := HJ45.out; first | omega | exact Nat.le_refl _⟩, ⟨by (with_reducible repeat (first | apply Kd.Q_alloc | apply Kd.Q_drewN | apply Kd.Q_drew)); exact Kd.Q_mono (Kd.Q_far (p := ⟨gb161, 2, none⟩) (Kd.Q_far (p := ⟨gb161, 1, none⟩) (Kd.Q_far (p := ⟨gb161, 0, none⟩) (Kd.Q_types HO187.out BK161.out (by decide)) (fun _ hk => hk.2) (.int .i64 t176)) (fun _ hk => hk.2) (.slice Ao79 t177.length co79)) (fun _ hk => hk.2) (.int .i64 t180)) (fun _ hk => trivial)⟩, ⟨by (with_reducible repeat (first | apply Kd.V_alloc | apply Kd.V_drewN | apply Kd.V_drew)); exact Kd.V_mono (Kd.V_far (p := ⟨gb161, 2, none⟩) (Kd.V_far (p := ⟨gb161, 1, none⟩) (Kd.V_far (p := ⟨gb161, 0, none⟩) (Kd.V_mono HO179.out (fun k_ hk => (⟨hk, hk.2.1⟩ : _ ∧ k_ ≠ gb161))) (fun _ hk => hk.2) (.int .i64 t176)) (fun _ hk => hk.2) (.slice Ao79 t177.length co79)) (fun _ hk => hk.2) (.int .i64 t180)) (fun _ hk => ⟨hk.1.1, hk.1.2.1⟩)⟩, ⟨by (with_reducible repeat (first | refine blk_drewN ?_ _ | refine blk_drew ?_ | refine blk_alloc ?_ _)); refine blk_put (cs := #[.int .i64 t176, .slice Ao79 t177.length co79, .int .i64 x162002_1]) ?_ 2 _ rfl; (with_reducible repeat (first | refine blk_drewN ?_ _ | refine blk_drew ?_ | refine blk_alloc ?_ _)); refine blk_put (cs := #[.int .i64 t176, .slice Ao74 x162001_1.length co74, .int .i64 x162002_1]) ?_ 1 _ rfl; (with_reducible repeat (first | refine blk_drewN ?_ _ | refine blk_drew ?_ | refine blk_alloc ?_ _)); refine blk_put (cs := #[.int .i64 x162000_1, .slice Ao74 x162001_1.length co74, .int .i64 x162002_1]) ?_ 0 _ rfl; (with_reducible repeat (first | refine blk_drewN ?_ _ | refine blk_drew ?_ | refine blk_alloc ?_ _)); exact BK161.out⟩, ⟨by repeat (first | (with_reducible first | exact HB.out | apply below_alloc | apply pw_below_drewN | apply below_drew1 | refine below_set ?_ GE161.out | refine below_set ?_ GE183.out) | exact HB.out)⟩⟩
                                    · rw [if_neg c72] at H
                                      exact absurd H (by simp)
                                  · rw [if_neg c71] at H
                                    have c71b0 : (t181.toList == (rdOf ByteArray.empty x7_1 0).toList) = false := beq_eq_false_iff_ne.mpr c71
                                    have c71b1 : (t181.toList != (rdOf ByteArray.empty x7_1 0).toList) = true := bne_iff_ne.mpr c71
                                    obtain rfl := Option.some.inj H
                                    have hcz87_0 : wc.cell? ⟨gb161, 0, none⟩ = some (.int .i64 x162000_1) := (blk_cell BK161.out 0).trans rfl
                                    have hcz87_1 : wc.cell? ⟨gb161, 1, none⟩ = some (u162001) := (blk_cell BK161.out 1).trans rfl
                                    have hcz87_2 : wc.cell? ⟨gb161, 2, none⟩ = some (.int .i64 x162002_1) := (blk_cell BK161.out 2).trans rfl
                                    have hfz87_0 := blk_frozen BK161.out 0
                                    have hfz87_1 := blk_frozen BK161.out 1
                                    have hfz87_2 := blk_frozen BK161.out 2
                                    obtain ⟨Ao88, co88, eo88⟩ := Kd.V_slice HO_162001.out
                                    subst eo88
                                    go_wp2_with (first | ((with_reducible refine gate_callee (f := 23) rfl ?_); refine goesL_ (some 105) rfl rfl Try.func23 (by kernel_rfl) rfl #[.agg #[.int .i64 x162000_1, .slice Ao88 x162001_1.length co88, .int .i64 x162002_1]] rfl (by (try simp only [List.map_toArray, List.map_cons, List.map_nil]); first | done | rfl | (simp only [List.length_drop, List.length_take]; rfl)) ?_; (with_reducible refine (queue_Pop.calls x162000_1 (fun k_ => (some k_ ≠ (u7 : Value).ownBlock ∧ k_ ≠ gb161)) _ _ x162001_1 x162002_1 t176 t177 t180 t181 t182 _ ?side1 A50.out).mono ?_); (case side1 => exact HO_162001.out); rintro e w89 ⟨v178, rfl, ho0, hb⟩; refine ⟨_, rfl, ?_⟩; have n0_ := Aside0.mk (Kd.Q_below (by (with_reducible repeat (first | apply Kd.Q_alloc | apply Kd.Q_drewN | apply Kd.Q_drew)); exact HO_7.out) hb); have n1_ := Aside0.mk (Kd.V_below (by (with_reducible repeat (first | apply Kd.V_alloc | apply Kd.V_drewN | apply Kd.V_drew)); exact HO_162001.out) hb); have n2_ := Aside0.mk (Kd.V_lower (Kd.V_mono (ok' := fun k_ => some k_ ≠ (u7 : Value).ownBlock ∧ k_ ≠ gb161) ho0 (fun k_ hk_ => ⟨Or.elim hk_ (fun hs_ => hs_.1) (fun hn_ => (Kd.fresh' (Kd.Q_lt (by (with_reducible repeat (first | apply Kd.Q_alloc | apply Kd.Q_drewN | apply Kd.Q_drew)); exact HO_7.out)) k_ hn_)), Or.elim hk_ (fun hs_ => hs_.2) (fun hn_ => (Kd.freshB (g := gb161) (o := .cells #[.int .i64 x162000_1, .slice Ao88 x162001_1.length co88, .int .i64 x162002_1] 35 (0, 0)) (by (with_reducible repeat (first | refine blk_drewN ?_ _ | refine blk_drew ?_ | refine blk_alloc ?_ _)); exact BK161.out) k_ hn_))⟩)) (below_size (by repeat (first | (with_reducible first | exact HB.out | apply below_alloc | apply pw_below_drewN | apply below_drew1 | refine below_set ?_ GE161.out) | exact HB.out)))); have n3_ := Aside0.mk (blk_below (g := gb161) (o := .cells #[.int .i64 x162000_1, .slice Ao88 x162001_1.length co88, .int .i64 x162002_1] 35 (0, 0)) (by (with_reducible repeat (first | refine blk_drewN ?_ _ | refine blk_drew ?_ | refine blk_alloc ?_ _)); exact BK161.out) hb); have n4_ := Aside0.mk (below_step (by repeat (first | (with_reducible first | exact HB.out | apply below_alloc | apply pw_below_drewN | apply below_drew1 | refine below_set ?_ GE161.out) | exact HB.out)) hb); clear HO_7; clear HO_162001; clear BK161; clear HB; have HO_7 := n0_; have HO_162001 := n1_; have HO179 := n2_; have BK161 := n3_; have HB := n4_; clear n0_ n1_ n2_ n3_ n4_; (try clear hb); (try clear hb2); (try clear hk); (try clear hi); (try clear ho0)) | ((with_reducible refine gate_dst (N := 14) rfl ?_); (try (refine gate_guard (by rfl) ?_; dsimp only)); refine box_event ?hg (N := 14) ?hd (cs := #[.int .i64 0, .slice none 0 0, .int .i64 0]) (t := 35) ?hr ?_; (case hd => rfl); (case hg => rfl); (case hr => first | (go_simp; done) | (go_simp; rfl)); intro gb183 hg w90 hbox hb; have n0_ := Aside0.mk (Kd.Q_below (by (with_reducible repeat (first | apply Kd.Q_alloc | apply Kd.Q_drewN | apply Kd.Q_drew)); exact HO_7.out) hb); have n1_ := Aside0.mk (Kd.V_below (Kd.V_elderB (by (with_reducible repeat (first | apply Kd.V_alloc | apply Kd.V_drewN | apply Kd.V_drew)); exact HO_162001.out) gb183 (Nat.le_of_eq hg.symm)) hb); have n2_ := Aside0.mk (Kd.V_below (Kd.V_elderB (by (with_reducible repeat (first | apply Kd.V_alloc | apply Kd.V_drewN | apply Kd.V_drew)); exact HO179.out) gb183 (Nat.le_of_eq hg.symm)) hb); have n3_ := Aside0.mk (blk_below (g := gb161) (o := .cells #[.int .i64 x162000_1, .slice Ao88 x162001_1.length co88, .int .i64 x162002_1] 35 (0, 0)) (by (with_reducible repeat (first | refine blk_drewN ?_ _ | refine blk_drew ?_ | refine blk_alloc ?_ _)); exact BK161.out) hb); have n4_ := Aside0.mk (below_step (by repeat (first | (with_reducible first | exact HB.out | apply below_alloc | apply pw_below_drewN | apply below_drew1 | refine below_set ?_ GE161.out) | exact HB.out)) hb); have n5_ := Aside0.mk (hbox); have n6_ := Aside0.mk ((by rw [hg]; exact (below_size (by repeat (first | (with_reducible first | exact HB.out | apply below_alloc | apply pw_below_drewN | apply below_drew1 | refine below_set ?_ GE161.out) | exact HB.out))) : w.heap.size ≤ gb183)); have n7_ := Aside0.mk ((by rw [hg]; exact (below_size (by repeat (first | (with_reducible first | exact HB.out | apply below_alloc | apply pw_below_drewN | apply below_drew1 | refine below_set ?_ GE161.out) | exact HB.out))) : w.heap.size ≤ gb183)); have n8_ := Aside0.mk ((by rw [hg]; exact Nat.ne_of_lt (blk_lt (g := gb161) (o := .cells #[.int .i64 x162000_1, .slice Ao88 x162001_1.length co88, .int .i64 x162002_1] 35 (0, 0)) (by (with_reducible repeat (first | refine blk_drewN ?_ _ | refine blk_drew ?_ | refine blk_alloc ?_ _)); exact BK161.out)) : gb161 ≠ gb183)); have n9_ := Aside0.mk ((by rw [hg]; exact Nat.ne_of_gt (blk_lt (g := gb161) (o := .cells #[.int .i64 x162000_1, .slice Ao88 x162001_1.length co88, .int .i64 x162002_1] 35 (0, 0)) (by (with_reducible repeat (first | refine blk_drewN ?_ _ | refine blk_drew ?_ | refine blk_alloc ?_ _)); exact BK161.out)) : gb183 ≠ gb161)); clear HO_7; clear HO_162001; clear HO179; clear BK161; clear HB; have HO_7 := n0_; have HO_162001 := n1_; have HO179 := n2_; have BK161 := n3_; have HB := n4_; have BK183 := n5_; have GW183 := n6_; have GE183 := n7_; have NB161_183 := n8_; have NB183_161 := n9_; clear n0_ n1_ n2_ n3_ n4_ n5_ n6_ n7_ n8_ n9_; clear hb hbox hg; have hnb91 := NB183_161.out; have hnc91 := NB161_183.out; have hcz92_0 : w90.cell? ⟨gb183, 0, none⟩ = some (.int .i64 0) := (blk_cell BK183.out 0).trans rfl; have hcz92_1 : w90.cell? ⟨gb183, 1, none⟩ = some (.slice none 0 0) := (blk_cell BK183.out 1).trans rfl; have hcz92_2 : w90.cell? ⟨gb183, 2, none⟩ = some (.int .i64 0) := (blk_cell BK183.out 2).trans rfl; have hfz92_0 := blk_frozen BK183.out 0; have hfz92_1 := blk_frozen BK183.out 1; have hfz92_2 := blk_frozen BK183.out 2; obtain ⟨Ao93, co93, eo93⟩ := Kd.V_slice HO179.out; subst eo93; obtain ⟨Ao94, co94, eo94, _⟩ := Kd.Q_slice HO_7.out; subst eo94; have p184 : 0 ≤ (0 : Int) := (by omega); have q184 : 0 < (x7_1.length : Int) := of_decide_eq_true (by first | (with_reducible assumption) | assumption); obtain ⟨ad184, e184, hx184_0⟩ := Kd.at_string (Kd.Q_reads' HO_7.out).2.2 0 p184 q184; cases e184; have qi184 : (0 < x7_1.length) = True := eq_true (by omega); (try rw [show ((0 : Int)).toNat = 0 from rfl] at hx184_0); (try rw [Addr.add_zero'] at hx184_0); have hn184_0 : ad184.block ≠ gb183 := Kd.own_blk (Kd.Q_ne HO_7.out BK183.out (by decide)); have hn184_1 : ad184.block ≠ gb183 := Kd.own_blk (Kd.Q_ne HO_7.out BK183.out (by decide)); have hn184_2 : ad184.block ≠ gb183 := Kd.own_blk (Kd.Q_ne HO_7.out BK183.out (by decide)); replace hx184_0 := (cell_far (p := ⟨gb183, 0, none⟩) (by first | (rw [add_block]; exact hn184_0) | (show (Addr.add _ _).block ≠ _; rw [add_block]; exact hn184_0) | exact hn184_0) (.int .i64 t176)).trans hx184_0; replace hx184_0 := (cell_far (p := ⟨gb183, 1, none⟩) (by first | (rw [add_block]; exact hn184_1) | (show (Addr.add _ _).block ≠ _; rw [add_block]; exact hn184_1) | exact hn184_1) (.slice Ao93 t177.length co93)).trans hx184_0; replace hx184_0 := (cell_far (p := ⟨gb183, 2, none⟩) (by first | (rw [add_block]; exact hn184_2) | (show (Addr.add _ _).block ≠ _; rw [add_block]; exact hn184_2) | exact hn184_2) (.int .i64 t180)).trans hx184_0; clear hn184_0; clear hn184_1; clear hn184_2; replace p184 := eq_true p184; replace q184 := eq_true q184))
                                    go_ret
                                    exact ⟨by first | rfl | (simp [errW_none, errW_some] <;> rfl) | (simp only [← hji5]; first | rfl | (simp [errW_none, errW_some] <;> rfl)) | (simp [*, errW_none, errW_some] <;> rfl), by repeat (first | (with_reducible first | exact HB.out | apply below_alloc | apply pw_below_drewN | apply below_drew1 | refine below_set ?_ GE161.out | refine below_set ?_ GE183.out) | exact HB.out)⟩
                                · rw [if_neg c70] at H
                                  exact absurd H (by simp)
                              · rw [if_neg c69] at H
                                have c69b0 : (t182 == 0) = false := beq_eq_false_iff_ne.mpr c69
                                have c69b1 : (t182 != 0) = true := bne_iff_ne.mpr c69
                                obtain rfl := Option.some.inj H
                                have hcz95_0 : wc.cell? ⟨gb161, 0, none⟩ = some (.int .i64 x162000_1) := (blk_cell BK161.out 0).trans rfl
                                have hcz95_1 : wc.cell? ⟨gb161, 1, none⟩ = some (u162001) := (blk_cell BK161.out 1).trans rfl
                                have hcz95_2 : wc.cell? ⟨gb161, 2, none⟩ = some (.int .i64 x162002_1) := (blk_cell BK161.out 2).trans rfl
                                have hfz95_0 := blk_frozen BK161.out 0
                                have hfz95_1 := blk_frozen BK161.out 1
                                have hfz95_2 := blk_frozen BK161.out 2
                                obtain ⟨Ao96, co96, eo96⟩ := Kd.V_slice HO_162001.out
                                subst eo96
                                go_wp2_with (first | ((with_reducible refine gate_callee (f := 23) rfl ?_); refine goesL_ (some 105) rfl rfl Try.func23 (by kernel_rfl) rfl #[.agg #[.int .i64 x162000_1, .slice Ao96 x162001_1.length co96, .int .i64 x162002_1]] rfl (by (try simp only [List.map_toArray, List.map_cons, List.map_nil]); first | done | rfl | (simp only [List.length_drop, List.length_take]; rfl)) ?_; (with_reducible refine (queue_Pop.calls x162000_1 (fun k_ => (some k_ ≠ (u7 : Value).ownBlock ∧ k_ ≠ gb161)) _ _ x162001_1 x162002_1 t176 t177 t180 t181 t182 _ ?side1 A50.out).mono ?_); (case side1 => exact HO_162001.out); rintro e w97 ⟨v178, rfl, ho0, hb⟩; refine ⟨_, rfl, ?_⟩; have n0_ := Aside0.mk (Kd.Q_below (by (with_reducible repeat (first | apply Kd.Q_alloc | apply Kd.Q_drewN | apply Kd.Q_drew)); exact HO_7.out) hb); have n1_ := Aside0.mk (Kd.V_below (by (with_reducible repeat (first | apply Kd.V_alloc | apply Kd.V_drewN | apply Kd.V_drew)); exact HO_162001.out) hb); have n2_ := Aside0.mk (Kd.V_lower (Kd.V_mono (ok' := fun k_ => some k_ ≠ (u7 : Value).ownBlock ∧ k_ ≠ gb161) ho0 (fun k_ hk_ => ⟨Or.elim hk_ (fun hs_ => hs_.1) (fun hn_ => (Kd.fresh' (Kd.Q_lt (by (with_reducible repeat (first | apply Kd.Q_alloc | apply Kd.Q_drewN | apply Kd.Q_drew)); exact HO_7.out)) k_ hn_)), Or.elim hk_ (fun hs_ => hs_.2) (fun hn_ => (Kd.freshB (g := gb161) (o := .cells #[.int .i64 x162000_1, .slice Ao96 x162001_1.length co96, .int .i64 x162002_1] 35 (0, 0)) (by (with_reducible repeat (first | refine blk_drewN ?_ _ | refine blk_drew ?_ | refine blk_alloc ?_ _)); exact BK161.out) k_ hn_))⟩)) (below_size (by repeat (first | (with_reducible first | exact HB.out | apply below_alloc | apply pw_below_drewN | apply below_drew1 | refine below_set ?_ GE161.out) | exact HB.out)))); have n3_ := Aside0.mk (blk_below (g := gb161) (o := .cells #[.int .i64 x162000_1, .slice Ao96 x162001_1.length co96, .int .i64 x162002_1] 35 (0, 0)) (by (with_reducible repeat (first | refine blk_drewN ?_ _ | refine blk_drew ?_ | refine blk_alloc ?_ _)); exact BK161.out) hb); have n4_ := Aside0.mk (below_step (by repeat (first | (with_reducible first | exact HB.out | apply below_alloc | apply pw_below_drewN | apply below_drew1 | refine below_set ?_ GE161.out) | exact HB.out)) hb); clear HO_7; clear HO_162001; clear BK161; clear HB; have HO_7 := n0_; have HO_162001 := n1_; have HO179 := n2_; have BK161 := n3_; have HB := n4_; clear n0_ n1_ n2_ n3_ n4_; (try clear hb); (try clear hb2); (try clear hk); (try clear hi); (try clear ho0)) | ((with_reducible refine gate_dst (N := 14) rfl ?_); (try (refine gate_guard (by rfl) ?_; dsimp only)); refine box_event ?hg (N := 14) ?hd (cs := #[.int .i64 0, .slice none 0 0, .int .i64 0]) (t := 35) ?hr ?_; (case hd => rfl); (case hg => rfl); (case hr => first | (go_simp; done) | (go_simp; rfl)); intro gb183 hg w98 hbox hb; have n0_ := Aside0.mk (Kd.Q_below (by (with_reducible repeat (first | apply Kd.Q_alloc | apply Kd.Q_drewN | apply Kd.Q_drew)); exact HO_7.out) hb); have n1_ := Aside0.mk (Kd.V_below (Kd.V_elderB (by (with_reducible repeat (first | apply Kd.V_alloc | apply Kd.V_drewN | apply Kd.V_drew)); exact HO_162001.out) gb183 (Nat.le_of_eq hg.symm)) hb); have n2_ := Aside0.mk (Kd.V_below (Kd.V_elderB (by (with_reducible repeat (first | apply Kd.V_alloc | apply Kd.V_drewN | apply Kd.V_drew)); exact HO179.out) gb183 (Nat.le_of_eq hg.symm)) hb); have n3_ := Aside0.mk (blk_below (g := gb161) (o := .cells #[.int .i64 x162000_1, .slice Ao96 x162001_1.length co96, .int .i64 x162002_1] 35 (0, 0)) (by (with_reducible repeat (first | refine blk_drewN ?_ _ | refine blk_drew ?_ | refine blk_alloc ?_ _)); exact BK161.out) hb); have n4_ := Aside0.mk (below_step (by repeat (first | (with_reducible first | exact HB.out | apply below_alloc | apply pw_below_drewN | apply below_drew1 | refine below_set ?_ GE161.out) | exact HB.out)) hb); have n5_ := Aside0.mk (hbox); have n6_ := Aside0.mk ((by rw [hg]; exact (below_size (by repeat (first | (with_reducible first | exact HB.out | apply below_alloc | apply pw_below_drewN | apply below_drew1 | refine below_set ?_ GE161.out) | exact HB.out))) : w.heap.size ≤ gb183)); have n7_ := Aside0.mk ((by rw [hg]; exact (below_size (by repeat (first | (with_reducible first | exact HB.out | apply below_alloc | apply pw_below_drewN | apply below_drew1 | refine below_set ?_ GE161.out) | exact HB.out))) : w.heap.size ≤ gb183)); have n8_ := Aside0.mk ((by rw [hg]; exact Nat.ne_of_lt (blk_lt (g := gb161) (o := .cells #[.int .i64 x162000_1, .slice Ao96 x162001_1.length co96, .int .i64 x162002_1] 35 (0, 0)) (by (with_reducible repeat (first | refine blk_drewN ?_ _ | refine blk_drew ?_ | refine blk_alloc ?_ _)); exact BK161.out)) : gb161 ≠ gb183)); have n9_ := Aside0.mk ((by rw [hg]; exact Nat.ne_of_gt (blk_lt (g := gb161) (o := .cells #[.int .i64 x162000_1, .slice Ao96 x162001_1.length co96, .int .i64 x162002_1] 35 (0, 0)) (by (with_reducible repeat (first | refine blk_drewN ?_ _ | refine blk_drew ?_ | refine blk_alloc ?_ _)); exact BK161.out)) : gb183 ≠ gb161)); clear HO_7; clear HO_162001; clear HO179; clear BK161; clear HB; have HO_7 := n0_; have HO_162001 := n1_; have HO179 := n2_; have BK161 := n3_; have HB := n4_; have BK183 := n5_; have GW183 := n6_; have GE183 := n7_; have NB161_183 := n8_; have NB183_161 := n9_; clear n0_ n1_ n2_ n3_ n4_ n5_ n6_ n7_ n8_ n9_; clear hb hbox hg; have hnb99 := NB183_161.out; have hnc99 := NB161_183.out; have hcz100_0 : w98.cell? ⟨gb183, 0, none⟩ = some (.int .i64 0) := (blk_cell BK183.out 0).trans rfl; have hcz100_1 : w98.cell? ⟨gb183, 1, none⟩ = some (.slice none 0 0) := (blk_cell BK183.out 1).trans rfl; have hcz100_2 : w98.cell? ⟨gb183, 2, none⟩ = some (.int .i64 0) := (blk_cell BK183.out 2).trans rfl; have hfz100_0 := blk_frozen BK183.out 0; have hfz100_1 := blk_frozen BK183.out 1; have hfz100_2 := blk_frozen BK183.out 2; obtain ⟨Ao101, co101, eo101⟩ := Kd.V_slice HO179.out; subst eo101; obtain ⟨Ao102, co102, eo102, _⟩ := Kd.Q_slice HO_7.out; subst eo102))
                                go_ret
                                exact ⟨by first | rfl | (simp [errW_none, errW_some] <;> rfl) | (simp only [← hji5]; first | rfl | (simp [errW_none, errW_some] <;> rfl)) | (simp [*, errW_none, errW_some] <;> rfl), by repeat (first | (with_reducible first | exact HB.out | apply below_alloc | apply pw_below_drewN | apply below_drew1 | refine below_set ?_ GE161.out | refine below_set ?_ GE183.out) | exact HB.out)⟩
                          · replace c49 := Bool.eq_false_iff.mpr c49
                            subst c49
                            have H1 : ((some (([(x39_1) % 256, ((rd y162 x39_1)) % 256] : List Int) : List Int)).bind fun y188 => ((queue_Push.f kj45 x162000_1 x162001_1 x162002_1 (strOfNums y188)).bind fun bt191 => (if bt191.2.2.2.2 = 0 then (footwaylaw09_QueueOrder.j2 kj45 (wrap64 (1 + (Int.tmod (wrap64 ((Int.tmod a0 8) + 8)) 8))) x7_1 x8_1 (strOfNums y188) bt191.2.2.2.1 y162 (y162.length : Int) x39_1 (bt191.2.2.2.1 != (decide ((x7_1.length : Int) < (wrap64 (1 + (Int.tmod (wrap64 ((Int.tmod a0 8) + 8)) 8)))))) bt191.1 bt191.2.1 bt191.2.2.1) else (footwaylaw09_QueueOrder.j2 kj45 (wrap64 (1 + (Int.tmod (wrap64 ((Int.tmod a0 8) + 8)) 8))) x7_1 x8_1 (strOfNums y188) bt191.2.2.2.1 y162 (y162.length : Int) x39_1 true bt191.1 bt191.2.1 bt191.2.2.1)))) = some r := by rw [if_neg (show ¬ (false = true) by decide)] at H; exact H
                            clear H
                            have H := H1
                            clear H1
                            obtain ⟨y188, hy188⟩ : ∃ y_ : List Int, y_ = (([(x39_1) % 256, ((rd y162 x39_1)) % 256] : List Int)) := ⟨_, rfl⟩
                            replace H : ((queue_Push.f kj45 x162000_1 x162001_1 x162002_1 (strOfNums y188)).bind fun bt191 => (if bt191.2.2.2.2 = 0 then (footwaylaw09_QueueOrder.j2 kj45 (wrap64 (1 + (Int.tmod (wrap64 ((Int.tmod a0 8) + 8)) 8))) x7_1 x8_1 (strOfNums y188) bt191.2.2.2.1 y162 (y162.length : Int) x39_1 (bt191.2.2.2.1 != (decide ((x7_1.length : Int) < (wrap64 (1 + (Int.tmod (wrap64 ((Int.tmod a0 8) + 8)) 8)))))) bt191.1 bt191.2.1 bt191.2.2.1) else (footwaylaw09_QueueOrder.j2 kj45 (wrap64 (1 + (Int.tmod (wrap64 ((Int.tmod a0 8) + 8)) 8))) x7_1 x8_1 (strOfNums y188) bt191.2.2.2.1 y162 (y162.length : Int) x39_1 true bt191.1 bt191.2.1 bt191.2.2.1))) = some r := by first | (rw [hy188]; with_reducible exact H) | (have H2_ := (Option.bind_some _ _).symm.trans H; rw [hy188]; with_reducible exact H2_) | (have H2_ := (Option.bind_some _ _).symm.trans H; with_reducible exact H2_) | with_reducible exact H | (rw [hy188]; exact H) | exact H
                            have Ny188 := Aside0.mk hy188
                            clear hy188
                            replace H := Option.bind_eq_some_iff.mp H
                            obtain ⟨⟨t191, t192, t195, t196, t197⟩, A1030, H⟩ := H
                            replace H : (if t197 = 0 then (footwaylaw09_QueueOrder.j2 kj45 (wrap64 (1 + (Int.tmod (wrap64 ((Int.tmod a0 8) + 8)) 8))) x7_1 x8_1 (strOfNums y188) t196 y162 (y162.length : Int) x39_1 (t196 != (decide ((x7_1.length : Int) < (wrap64 (1 + (Int.tmod (wrap64 ((Int.tmod a0 8) + 8)) 8)))))) t191 t192 t195) else (footwaylaw09_QueueOrder.j2 kj45 (wrap64 (1 + (Int.tmod (wrap64 ((Int.tmod a0 8) + 8)) 8))) x7_1 x8_1 (strOfNums y188) t196 y162 (y162.length : Int) x39_1 true t191 t192 t195)) = some r := H
                            have A103 := Aside0.mk A1030
                            clear A1030
                            have HC104 := Aside0.mk H
                            clear H
                            go_upto_region 13 with (first | ((with_reducible refine gate_dst (N := 52) rfl ?_); (try (refine gate_guard (by rfl) ?_; dsimp only)); refine Kd.R_lit (Kd.int .u8) _ 5 ?hg (N := 52) ?hd (xs := ([(x39_1) % 256, ((rd y162 x39_1)) % 256] : List Int)) (inner := [.int .u8 ((x39_1) % 256), .int .u8 (((rd y162 x39_1)) % 256)]) (ok := fun _ => True) (okp := fun _ => True) ?hr ?hp (fun _ hk => hk) trivial (Below.refl _ _) (Nat.le_refl _) (by simp) ?_; (case hd => rfl); (case hg => rfl); (case hr => first | (go_simp; done) | (go_simp; rfl)); (case hp => exact (Reps.one (show Kd.M (Kd.int .u8) _ _ _ ((x39_1) % 256) [.int .u8 ((x39_1) % 256)] from rfl) (Reps.one (show Kd.M (Kd.int .u8) _ _ _ (((rd y162 x39_1)) % 256) [.int .u8 (((rd y162 x39_1)) % 256)] from rfl) (Reps.none _ _)))); intro v189 w105 ho106 hb hg_ hnew_; clear hg_ hnew_; (first | rw [← Ny188.out] at ho106 | (simp only [Int.reduceToNat] at ho106; rw [← Ny188.out] at ho106)); have n0_ := Aside0.mk (Kd.Q_below (by (with_reducible repeat (first | apply Kd.Q_alloc | apply Kd.Q_drewN | apply Kd.Q_drew)); exact HO_7.out) hb); have n1_ := Aside0.mk (Kd.V_elder' (by (with_reducible repeat (first | apply Kd.V_alloc | apply Kd.V_drewN | apply Kd.V_drew)); exact HO_162001.out) (Kd.R_base ho106) hb); have n2_ := Aside0.mk (Kd.R_lower ho106 (below_size (by repeat (first | (with_reducible first | exact HB.out | apply below_alloc | apply pw_below_drewN | apply below_drew1 | refine below_set ?_ GE161.out) | exact HB.out)))); have n3_ := Aside0.mk (blk_below (g := gb161) (o := .cells #[.int .i64 x162000_1, u162001, .int .i64 x162002_1] 35 (0, 0)) (by (with_reducible repeat (first | refine blk_drewN ?_ _ | refine blk_drew ?_ | refine blk_alloc ?_ _)); exact BK161.out) hb); have n4_ := Aside0.mk (below_step (by repeat (first | (with_reducible first | exact HB.out | apply below_alloc | apply pw_below_drewN | apply below_drew1 | refine below_set ?_ GE161.out) | exact HB.out)) hb); clear HO_7; clear HO_162001; clear BK161; clear HB; have HO_7 := n0_; have HO_162001 := n1_; have HO190 := n2_; have BK161 := n3_; have HB := n4_; clear n0_ n1_ n2_ n3_ n4_; clear hb ho106; have hcv107 := own_string (P := Try.prog) Try.underlying52 Try.underlying5 Try.underlying9 (Kd.own_of_R HO190.out); have hcz108_0 : w105.cell? ⟨gb161, 0, none⟩ = some (.int .i64 x162000_1) := (blk_cell BK161.out 0).trans rfl; have hcz108_1 : w105.cell? ⟨gb161, 1, none⟩ = some (u162001) := (blk_cell BK161.out 1).trans rfl; have hcz108_2 : w105.cell? ⟨gb161, 2, none⟩ = some (.int .i64 x162002_1) := (blk_cell BK161.out 2).trans rfl; have hfz108_0 := blk_frozen BK161.out 0; have hfz108_1 := blk_frozen BK161.out 1; have hfz108_2 := blk_frozen BK161.out 2; obtain ⟨Ao109, co109, eo109⟩ := Kd.V_slice HO_162001.out; subst eo109) | ((with_reducible refine gate_callee (f := 22) rfl ?_); refine goesL_ (some 57) rfl rfl Try.func22 (by kernel_rfl) rfl #[.agg #[.int .i64 x162000_1, .slice Ao109 x162001_1.length co109, .int .i64 x162002_1], .string (strOfNums y188)] rfl (by (try simp only [List.map_toArray, List.map_cons, List.map_nil]); first | done | rfl | (simp only [List.length_drop, List.length_take]; rfl)) ?_; (with_reducible refine (queue_Push.calls kj45 x162000_1 (fun k_ => ((some k_ ≠ (u7 : Value).ownBlock ∧ k_ ≠ gb161) ∧ some k_ ≠ (v189 : Value).ownBlock)) _ _ x162001_1 x162002_1 (strOfNums y188) t191 t192 t195 t196 t197 _ ?side1 A103.out).mono ?_); (case side1 => exact HO_162001.out); rintro e w110 ⟨v193, rfl, ho0, hb⟩; refine ⟨_, rfl, ?_⟩; have n0_ := Aside0.mk (Kd.Q_below (by (with_reducible repeat (first | apply Kd.Q_alloc | apply Kd.Q_drewN | apply Kd.Q_drew)); exact HO_7.out) hb); have n1_ := Aside0.mk (Kd.V_below (by (with_reducible repeat (first | apply Kd.V_alloc | apply Kd.V_drewN | apply Kd.V_drew)); exact HO_162001.out) hb); have n2_ := Aside0.mk (Kd.R_below (by (with_reducible repeat (first | apply Kd.R_alloc | apply Kd.R_drewN | apply Kd.R_drew)); exact HO190.out) hb); have n3_ := Aside0.mk (Kd.V_lower (Kd.V_mono (ok' := fun k_ => some k_ ≠ (u7 : Value).ownBlock ∧ some k_ ≠ (v189 : Value).ownBlock ∧ k_ ≠ gb161) ho0 (fun k_ hk_ => ⟨Or.elim hk_ (fun hs_ => hs_.1.1) (fun hn_ => (Kd.fresh' (Kd.Q_lt (by (with_reducible repeat (first | apply Kd.Q_alloc | apply Kd.Q_drewN | apply Kd.Q_drew)); exact HO_7.out)) k_ hn_)), Or.elim hk_ (fun hs_ => hs_.2) (fun hn_ => (Kd.fresh' (Kd.R_lt (by (with_reducible repeat (first | apply Kd.R_alloc | apply Kd.R_drewN | apply Kd.R_drew)); exact HO190.out)) k_ hn_)), Or.elim hk_ (fun hs_ => hs_.1.2) (fun hn_ => (Kd.freshB (g := gb161) (o := .cells #[.int .i64 x162000_1, .slice Ao109 x162001_1.length co109, .int .i64 x162002_1] 35 (0, 0)) (by (with_reducible repeat (first | refine blk_drewN ?_ _ | refine blk_drew ?_ | refine blk_alloc ?_ _)); exact BK161.out) k_ hn_))⟩)) (below_size (by repeat (first | (with_reducible first | exact HB.out | apply below_alloc | apply pw_below_drewN | apply below_drew1 | refine below_set ?_ GE161.out) | exact HB.out)))); have n4_ := Aside0.mk (blk_below (g := gb161) (o := .cells #[.int .i64 x162000_1, .slice Ao109 x162001_1.length co109, .int .i64 x162002_1] 35 (0, 0)) (by (with_reducible repeat (first | refine blk_drewN ?_ _ | refine blk_drew ?_ | refine blk_alloc ?_ _)); exact BK161.out) hb); have n5_ := Aside0.mk (below_step (by repeat (first | (with_reducible first | exact HB.out | apply below_alloc | apply pw_below_drewN | apply below_drew1 | refine below_set ?_ GE161.out) | exact HB.out)) hb); clear HO_7; clear HO_162001; clear HO190; clear BK161; clear HB; have HO_7 := n0_; have HO_162001 := n1_; have HO190 := n2_; have HO194 := n3_; have BK161 := n4_; have HB := n5_; clear n0_ n1_ n2_ n3_ n4_ n5_; (try clear hb); (try clear hb2); (try clear hk); (try clear hi); (try clear ho0)) | ((with_reducible refine gate_dst (N := 18) rfl ?_); (try (refine gate_guard (by rfl) ?_; dsimp only)); refine box_event ?hg (N := 18) ?hd (cs := #[.int .i64 0, .slice none 0 0, .int .i64 0]) (t := 35) ?hr ?_; (case hd => rfl); (case hg => rfl); (case hr => first | (go_simp; done) | (go_simp; rfl)); intro gb198 hg w111 hbox hb; have n0_ := Aside0.mk (Kd.Q_below (by (with_reducible repeat (first | apply Kd.Q_alloc | apply Kd.Q_drewN | apply Kd.Q_drew)); exact HO_7.out) hb); have n1_ := Aside0.mk (Kd.V_below (Kd.V_elderB (by (with_reducible repeat (first | apply Kd.V_alloc | apply Kd.V_drewN | apply Kd.V_drew)); exact HO_162001.out) gb198 (Nat.le_of_eq hg.symm)) hb); have n2_ := Aside0.mk (Kd.R_below (by (with_reducible repeat (first | apply Kd.R_alloc | apply Kd.R_drewN | apply Kd.R_drew)); exact HO190.out) hb); have n3_ := Aside0.mk (Kd.V_below (Kd.V_elderB (by (with_reducible repeat (first | apply Kd.V_alloc | apply Kd.V_drewN | apply Kd.V_drew)); exact HO194.out) gb198 (Nat.le_of_eq hg.symm)) hb); have n4_ := Aside0.mk (blk_below (g := gb161) (o := .cells #[.int .i64 x162000_1, .slice Ao109 x162001_1.length co109, .int .i64 x162002_1] 35 (0, 0)) (by (with_reducible repeat (first | refine blk_drewN ?_ _ | refine blk_drew ?_ | refine blk_alloc ?_ _)); exact BK161.out) hb); have n5_ := Aside0.mk (below_step (by repeat (first | (with_reducible first | exact HB.out | apply below_alloc | apply pw_below_drewN | apply below_drew1 | refine below_set ?_ GE161.out) | exact HB.out)) hb); have n6_ := Aside0.mk (hbox); have n7_ := Aside0.mk ((by rw [hg]; exact (below_size (by repeat (first | (with_reducible first | exact HB.out | apply below_alloc | apply pw_below_drewN | apply below_drew1 | refine below_set ?_ GE161.out) | exact HB.out))) : w.heap.size ≤ gb198)); have n8_ := Aside0.mk ((by rw [hg]; exact (below_size (by repeat (first | (with_reducible first | exact HB.out | apply below_alloc | apply pw_below_drewN | apply below_drew1 | refine below_set ?_ GE161.out) | exact HB.out))) : w.heap.size ≤ gb198)); have n9_ := Aside0.mk ((by rw [hg]; exact Nat.ne_of_lt (blk_lt (g := gb161) (o := .cells #[.int .i64 x162000_1, .slice Ao109 x162001_1.length co109, .int .i64 x162002_1] 35 (0, 0)) (by (with_reducible repeat (first | refine blk_drewN ?_ _ | refine blk_drew ?_ | refine blk_alloc ?_ _)); exact BK161.out)) : gb161 ≠ gb198)); have n10_ := Aside0.mk ((by rw [hg]; exact Nat.ne_of_gt (blk_lt (g := gb161) (o := .cells #[.int .i64 x162000_1, .slice Ao109 x162001_1.length co109, .int .i64 x162002_1] 35 (0, 0)) (by (with_reducible repeat (first | refine blk_drewN ?_ _ | refine blk_drew ?_ | refine blk_alloc ?_ _)); exact BK161.out)) : gb198 ≠ gb161)); clear HO_7; clear HO_162001; clear HO190; clear HO194; clear BK161; clear HB; have HO_7 := n0_; have HO_162001 := n1_; have HO190 := n2_; have HO194 := n3_; have BK161 := n4_; have HB := n5_; have BK198 := n6_; have GW198 := n7_; have GE198 := n8_; have NB161_198 := n9_; have NB198_161 := n10_; clear n0_ n1_ n2_ n3_ n4_ n5_ n6_ n7_ n8_ n9_ n10_; clear hb hbox hg; have hnb112 := NB198_161.out; have hnc112 := NB161_198.out; have hcz113_0 : w111.cell? ⟨gb198, 0, none⟩ = some (.int .i64 0) := (blk_cell BK198.out 0).trans rfl; have hcz113_1 : w111.cell? ⟨gb198, 1, none⟩ = some (.slice none 0 0) := (blk_cell BK198.out 1).trans rfl; have hcz113_2 : w111.cell? ⟨gb198, 2, none⟩ = some (.int .i64 0) := (blk_cell BK198.out 2).trans rfl; have hfz113_0 := blk_frozen BK198.out 0; have hfz113_1 := blk_frozen BK198.out 1; have hfz113_2 := blk_frozen BK198.out 2; obtain ⟨Ao114, co114, eo114⟩ := Kd.V_slice HO194.out; subst eo114))
                            (try simp only [Act.put, List.setIfInBounds_toArray, List.set_cons_zero, List.set_cons_succ])
                            go_cut [70] (fun v70 wc => ∃ (kq : Nat) (x70_103 : Bool), v70 = .bool x70_103 ∧ Aside0 (footwaylaw09_QueueOrder.j2 kq (wrap64 (1 + (Int.tmod (wrap64 ((Int.tmod a0 8) + 8)) 8))) x7_1 x8_1 (strOfNums y188) t196 y162 (y162.length : Int) x39_1 x70_103 t191 t192 t195 = some r) ∧ Aside0 (kq ≤ kj45) ∧ Aside0 (Kd.Q Kd.string 9 wc w.heap.size (fun _ => True) u7 x7_1) ∧ Aside0 (Kd.V Kd.string 9 wc w.heap.size (fun k_ => some k_ ≠ (u7 : Value).ownBlock ∧ k_ ≠ gb161 ∧ k_ ≠ gb198) (.slice Ao109 x162001_1.length co109) x162001_1) ∧ Aside0 (Kd.V Kd.string 9 wc w.heap.size (fun k_ => some k_ ≠ (u7 : Value).ownBlock ∧ k_ ≠ gb161 ∧ k_ ≠ gb198) (.slice Ao114 t192.length co114) t192) ∧ Aside0 (wc.heap[gb161]? = some (.cells #[.int .i64 x162000_1, (.slice Ao109 x162001_1.length co109), .int .i64 x162002_1] 35 (0, 0))) ∧ Aside0 (wc.heap[gb198]? = some (.cells #[.int .i64 t191, (.slice Ao114 t192.length co114), .int .i64 t195] 35 (0, 0))) ∧ Aside0 (Below w.heap.size w wc))
                            case first =>
                              have H := HC104.out
                              clear HC104
                              by_cases c115 : t197 = 0
                              · rw [if_pos c115] at H
                                have c115b0 : (t197 == 0) = true := beq_iff_eq.mpr c115
                                have c115b1 : (t197 != 0) = false := bne_eq_false_iff_eq.mpr c115
                                clear c115
                                (first | rw [c115b0] | (simp only [i64_w, i32_w]; rw [c115b0]) | skip)
                                have H' := Aside0.mk H
                                clear H
                                obtain ⟨Ao116, co116, eo116, _⟩ := Kd.Q_slice HO_7.out
                                subst eo116
                                go_wp2
                                go_meet
                                case rel => exact ⟨_, ((t196 != (decide ((x7_1.length : Int) < (wrap64 (1 + (Int.tmod (wrap64 ((Int.tmod a0 8) + 8)) 8))))))), (by first | rfl | (simp; done) | (simp [*]; done)), H', ⟨by have := HK1.out; have := HJ45.out; first | omega | exact Nat.le_refl _⟩, ⟨by (with_reducible repeat (first | apply Kd.Q_alloc | apply Kd.Q_drewN | apply Kd.Q_drew)); exact Kd.Q_mono (Kd.Q_far (p := ⟨gb198, 2, none⟩) (Kd.Q_far (p := ⟨gb198, 1, none⟩) (Kd.Q_far (p := ⟨gb198, 0, none⟩) (Kd.Q_types HO_7.out BK198.out (by decide)) (fun _ hk => hk.2) (.int .i64 t191)) (fun _ hk => hk.2) (.slice Ao114 t192.length co114)) (fun _ hk => hk.2) (.int .i64 t195)) (fun _ hk => trivial)⟩, ⟨by (with_reducible repeat (first | apply Kd.V_alloc | apply Kd.V_drewN | apply Kd.V_drew)); exact Kd.V_mono (Kd.V_far (p := ⟨gb198, 2, none⟩) (Kd.V_far (p := ⟨gb198, 1, none⟩) (Kd.V_far (p := ⟨gb198, 0, none⟩) (Kd.V_mono HO_162001.out (fun k_ hk => (⟨hk, hk.2⟩ : _ ∧ k_ ≠ gb198))) (fun _ hk => hk.2) (.int .i64 t191)) (fun _ hk => hk.2) (.slice Ao114 t192.length co114)) (fun _ hk => hk.2) (.int .i64 t195)) (fun _ hk => ⟨hk.1.1.1.1, ⟨hk.1.1.1.2, hk.1.2⟩⟩)⟩, ⟨by (with_reducible repeat (first | apply Kd.V_alloc | apply Kd.V_drewN | apply Kd.V_drew)); exact Kd.V_mono (Kd.V_far (p := ⟨gb198, 2, none⟩) (Kd.V_far (p := ⟨gb198, 1, none⟩) (Kd.V_far (p := ⟨gb198, 0, none⟩) (Kd.V_mono HO194.out (fun k_ hk => (⟨hk, hk.2⟩ : _ ∧ k_ ≠ gb198))) (fun _ hk => hk.2) (.int .i64 t191)) (fun _ hk => hk.2) (.slice Ao114 t192.length co114)) (fun _ hk => hk.2) (.int .i64 t195)) (fun _ hk => ⟨hk.1.1.1, ⟨hk.1.1.2.2, hk.1.2⟩⟩)⟩, ⟨by (with_reducible repeat (first | refine blk_drewN ?_ _ | refine blk_drew ?_ | refine blk_alloc ?_ _)); refine blk_far ?_ NB161_198.out _; (with_reducible repeat (first | refine blk_drewN ?_ _ | refine blk_drew ?_ | refine blk_alloc ?_ _)); refine blk_far ?_ NB161_198.out _; (with_reducible repeat (first | refine blk_drewN ?_ _ | refine blk_drew ?_ | refine blk_alloc ?_ _)); refine blk_far ?_ NB161_198.out _; (with_reducible repeat (first | refine blk_drewN ?_ _ | refine blk_drew ?_ | refine blk_alloc ?_ _)); exact BK161.out⟩, ⟨by (with_reducible repeat (first | refine blk_drewN ?_ _ | refine blk_drew ?_ | refine blk_alloc ?_ _)); refine blk_put (cs := #[.int .i64 t191, .slice Ao114 t192.length co114, .int .i64 0]) ?_ 2 _ rfl; (with_reducible repeat (first | refine blk_drewN ?_ _ | refine blk_drew ?_ | refine blk_alloc ?_ _)); refine blk_put (cs := #[.int .i64 t191, .slice none 0 0, .int .i64 0]) ?_ 1 _ rfl; (with_reducible repeat (first | refine blk_drewN ?_ _ | refine blk_drew ?_ | refine blk_alloc ?_ _)); refine blk_put (cs := #[.int .i64 0, .slice none 0 0, .int .i64 0]) ?_ 0 _ rfl; (with_reducible repeat (first | refine blk_drewN ?_ _ | refine blk_drew ?_ | refine blk_alloc ?_ _)); exact BK198.out⟩, ⟨by repeat (first | (with_reducible first | exact HB.out | apply below_alloc | apply pw_below_drewN | apply below_drew1 | refine below_set ?_ GE161.out | refine below_set ?_ GE198.out) | exact HB.out)⟩⟩
                              · rw [if_neg c115] at H
                                have c115b0 : (t197 == 0) = false := beq_eq_false_iff_ne.mpr c115
                                have c115b1 : (t197 != 0) = true := bne_iff_ne.mpr c115
                                (first | rw [c115b0] | (simp only [i64_w, i32_w]; rw [c115b0]) | skip)
                                have H' := Aside0.mk H
                                clear H
                                go_wp2
                                go_meet
                                case rel => exact ⟨_, (true), (by first | rfl | (simp; done) | (simp [*]; done)), H', ⟨by have := HK1.out; have := HJ45.out; first | omega | exact Nat.le_refl _⟩, ⟨by (with_reducible repeat (first | apply Kd.Q_alloc | apply Kd.Q_drewN | apply Kd.Q_drew)); exact Kd.Q_mono (Kd.Q_far (p := ⟨gb198, 2, none⟩) (Kd.Q_far (p := ⟨gb198, 1, none⟩) (Kd.Q_far (p := ⟨gb198, 0, none⟩) (Kd.Q_types HO_7.out BK198.out (by decide)) (fun _ hk => hk.2) (.int .i64 t191)) (fun _ hk => hk.2) (.slice Ao114 t192.length co114)) (fun _ hk => hk.2) (.int .i64 t195)) (fun _ hk => trivial)⟩, ⟨by (with_reducible repeat (first | apply Kd.V_alloc | apply Kd.V_drewN | apply Kd.V_drew)); exact Kd.V_mono (Kd.V_far (p := ⟨gb198, 2, none⟩) (Kd.V_far (p := ⟨gb198, 1, none⟩) (Kd.V_far (p := ⟨gb198, 0, none⟩) (Kd.V_mono HO_162001.out (fun k_ hk => (⟨hk, hk.2⟩ : _ ∧ k_ ≠ gb198))) (fun _ hk => hk.2) (.int .i64 t191)) (fun _ hk => hk.2) (.slice Ao114 t192.length co114)) (fun _ hk => hk.2) (.int .i64 t195)) (fun _ hk => ⟨hk.1.1.1.1, ⟨hk.1.1.1.2, hk.1.2⟩⟩)⟩, ⟨by (with_reducible repeat (first | apply Kd.V_alloc | apply Kd.V_drewN | apply Kd.V_drew)); exact Kd.V_mono (Kd.V_far (p := ⟨gb198, 2, none⟩) (Kd.V_far (p := ⟨gb198, 1, none⟩) (Kd.V_far (p := ⟨gb198, 0, none⟩) (Kd.V_mono HO194.out (fun k_ hk => (⟨hk, hk.2⟩ : _ ∧ k_ ≠ gb198))) (fun _ hk => hk.2) (.int .i64 t191)) (fun _ hk => hk.2) (.slice Ao114 t192.length co114)) (fun _ hk => hk.2) (.int .i64 t195)) (fun _ hk => ⟨hk.1.1.1, ⟨hk.1.1.2.2, hk.1.2⟩⟩)⟩, ⟨by (with_reducible repeat (first | refine blk_drewN ?_ _ | refine blk_drew ?_ | refine blk_alloc ?_ _)); refine blk_far ?_ NB161_198.out _; (with_reducible repeat (first | refine blk_drewN ?_ _ | refine blk_drew ?_ | refine blk_alloc ?_ _)); refine blk_far ?_ NB161_198.out _; (with_reducible repeat (first | refine blk_drewN ?_ _ | refine blk_drew ?_ | refine blk_alloc ?_ _)); refine blk_far ?_ NB161_198.out _; (with_reducible repeat (first | refine blk_drewN ?_ _ | refine blk_drew ?_ | refine blk_alloc ?_ _)); exact BK161.out⟩, ⟨by (with_reducible repeat (first | refine blk_drewN ?_ _ | refine blk_drew ?_ | refine blk_alloc ?_ _)); refine blk_put (cs := #[.int .i64 t191, .slice Ao114 t192.length co114, .int .i64 0]) ?_ 2 _ rfl; (with_reducible repeat (first | refine blk_drewN ?_ _ | refine blk_drew ?_ | refine blk_alloc ?_ _)); refine blk_put (cs := #[.int .i64 t191, .slice none 0 0, .int .i64 0]) ?_ 1 _ rfl; (with_reducible repeat (first | refine blk_drewN ?_ _ | refine blk_drew ?_ | refine blk_alloc ?_ _)); refine blk_put (cs := #[.int .i64 0, .slice none 0 0, .int .i64 0]) ?_ 0 _ rfl; (with_reducible repeat (first | refine blk_drewN ?_ _ | refine blk_drew ?_ | refine blk_alloc ?_ _)); exact BK198.out⟩, ⟨by repeat (first | (with_reducible first | exact HB.out | apply below_alloc | apply pw_below_drewN | apply below_drew1 | refine below_set ?_ GE161.out | refine below_set ?_ GE198.out) | exact HB.out)⟩⟩
                            case rest =>
                              clear HC104
                              try clear c1
                              try clear p1
                              try clear q1
                              try clear hx1
                              try clear hcv1
                              try clear qi1
                              try clear c2
                              try clear p2
                              try clear c3
                              try clear c4
                              try clear c4b0
                              try clear c4b1
                              try clear c5
                              try clear c6
                              try clear c6b0
                              try clear c6b1
                              try clear p6
                              try clear c7
                              try clear c7b0
                              try clear c7b1
                              try clear c8
                              try clear q8
                              try clear c9
                              try clear hcv10
                              try clear c11
                              try clear q13
                              try clear c14
                              try clear c14b0
                              try clear c15
                              try clear c15b0
                              try clear c16
                              try clear c16b0
                              try clear p16
                              try clear q16
                              try clear hx16
                              try clear c18
                              try clear c18b0
                              try clear c18b1
                              try clear p18
                              try clear q18
                              try clear hx18
                              try clear qi18
                              try clear c20
                              try clear c20b0
                              try clear c20b1
                              try clear c21
                              try clear c21b0
                              try clear c21b1
                              try clear c22
                              try clear c23
                              try clear c24
                              try clear c26
                              try clear c35
                              try clear c43
                              try clear c47
                              try clear c47b0
                              try clear c47b1
                              try clear c48
                              try clear c48b0
                              try clear c48b1
                              try clear c49
                              try clear c51
                              try clear c51b0
                              try clear c51b1
                              try clear c51b2
                              try clear c52
                              try clear c52b0
                              try clear c52b1
                              try clear c57
                              try clear p64
                              try clear c65
                              try clear c69
                              try clear c69b0
                              try clear c69b1
                              try clear c70
                              try clear c70b0
                              try clear c70b1
                              try clear c71
                              try clear c71b0
                              try clear c71b1
                              try clear c72
                              try clear c72b0
                              try clear c72b1
                              try clear c77
                              try clear c83
                              try clear q83
                              try clear c91
                              try clear c99
                              try clear hcv107
                              try clear c112
                              try clear c115
                              try clear c115b0
                              try clear c115b1
                              try clear hcz100_0
                              try clear hcz100_1
                              try clear hcz100_2
                              try clear hcz108_0
                              try clear hcz108_1
                              try clear hcz108_2
                              try clear hcz10_0
                              try clear hcz10_1
                              try clear hcz10_2
                              try clear hcz113_0
                              try clear hcz113_1
                              try clear hcz113_2
                              try clear hcz22_0
                              try clear hcz22_1
                              try clear hcz22_2
                              try clear hcz27_0
                              try clear hcz27_1
                              try clear hcz27_2
                              try clear hcz30_0
                              try clear hcz30_1
                              try clear hcz30_2
                              try clear hcz31_0
                              try clear hcz31_1
                              try clear hcz31_2
                              try clear hcz36_0
                              try clear hcz36_1
                              try clear hcz36_2
                              try clear hcz39_0
                              try clear hcz39_1
                              try clear hcz39_2
                              try clear hcz44_0
                              try clear hcz44_1
                              try clear hcz44_2
                              try clear hcz53_0
                              try clear hcz53_1
                              try clear hcz53_2
                              try clear hcz58_0
                              try clear hcz58_1
                              try clear hcz58_2
                              try clear hcz61_0
                              try clear hcz61_1
                              try clear hcz61_2
                              try clear hcz66_0
                              try clear hcz66_1
                              try clear hcz66_2
                              try clear hcz73_0
                              try clear hcz73_1
                              try clear hcz73_2
                              try clear hcz78_0
                              try clear hcz78_1
                              try clear hcz78_2
                              try clear hcz87_0
                              try clear hcz87_1
                              try clear hcz87_2
                              try clear hcz92_0
                              try clear hcz92_1
                              try clear hcz92_2
                              try clear hcz95_0
                              try clear hcz95_1
                              try clear hcz95_2
                              try clear hfz100_0
                              try clear hfz100_1
                              try clear hfz100_2
                              try clear hfz108_0
                              try clear hfz108_1
                              try clear hfz108_2
                              try clear hfz10_0
                              try clear hfz10_1
                              try clear hfz10_2
                              try clear hfz113_0
                              try clear hfz113_1
                              try clear hfz113_2
                              try clear hfz22_0
                              try clear hfz22_1
                              try clear hfz22_2
                              try clear hfz27_0
                              try clear hfz27_1
                              try clear hfz27_2
                              try clear hfz30_0
                              try clear hfz30_1
                              try clear hfz30_2
                              try clear hfz31_0
                              try clear hfz31_1
                              try clear hfz31_2
                              try clear hfz36_0
                              try clear hfz36_1
                              try clear hfz36_2
                              try clear hfz39_0
                              try clear hfz39_1
                              try clear hfz39_2
                              try clear hfz44_0
                              try clear hfz44_1
                              try clear hfz44_2
                              try clear hfz53_0
                              try clear hfz53_1
                              try clear hfz53_2
                              try clear hfz58_0
                              try clear hfz58_1
                              try clear hfz58_2
                              try clear hfz61_0
                              try clear hfz61_1
                              try clear hfz61_2
                              try clear hfz66_0
                              try clear hfz66_1
                              try clear hfz66_2
                              try clear hfz73_0
                              try clear hfz73_1
                              try clear hfz73_2
                              try clear hfz78_0
                              try clear hfz78_1
                              try clear hfz78_2
                              try clear hfz87_0
                              try clear hfz87_1
                              try clear hfz87_2
                              try clear hfz92_0
                              try clear hfz92_1
                              try clear hfz92_2
                              try clear hfz95_0
                              try clear hfz95_1
                              try clear hfz95_2
                              try clear hx167_0
                              try clear hx184_0
                              try clear p1
                              try clear p16
                              try clear p167
                              try clear p184
                              try clear p2
                              try clear p6
                              try clear q1
                              try clear q13
                              try clear q16
                              try clear q167
                              try clear q184
                              try clear q83
                              obtain ⟨kq, x70_103, rfl, HA, HJ103, HO_7, HO_162001, HO_199001, BK161, BK198, HB⟩ := hcut
                              cases kq with
                              | zero => exact absurd HA.out (by simp [footwaylaw09_QueueOrder.j2])
                              | succ kj103 =>
                                have H := HA.out
                                clear HA
                                simp only [footwaylaw09_QueueOrder.j2] at H
                                by_cases c117 : x70_103 = true
                                · subst c117
                                  have H1 : (some false) = some r := by rw [if_pos rfl] at H; exact H
                                  clear H
                                  have H := H1
                                  clear H1
                                  obtain rfl := Option.some.inj H
                                  go_wp2
                                  go_ret
                                  exact ⟨by first | rfl | (simp [errW_none, errW_some] <;> rfl) | (simp only [← hji5]; first | rfl | (simp [errW_none, errW_some] <;> rfl)) | (simp [*, errW_none, errW_some] <;> rfl), by repeat (first | (with_reducible first | exact HB.out | apply below_alloc | apply pw_below_drewN | apply below_drew1 | refine below_set ?_ GE161.out | refine below_set ?_ GE198.out) | exact HB.out)⟩
                                · replace c117 := Bool.eq_false_iff.mpr c117
                                  subst c117
                                  have H1 : (if t196 = true then (if x7_1.length < 8796093022208 then (footwaylaw09_QueueOrder.j3 kj103 (wrap64 (1 + (Int.tmod (wrap64 ((Int.tmod a0 8) + 8)) 8))) (x7_1 ++ [(strOfNums y188)]) x8_1 y162 (y162.length : Int) x39_1 t191 t192 t195) else (none)) else (footwaylaw09_QueueOrder.j3 kj103 (wrap64 (1 + (Int.tmod (wrap64 ((Int.tmod a0 8) + 8)) 8))) x7_1 (wrap64 (x8_1 + 1)) y162 (y162.length : Int) x39_1 t191 t192 t195)) = some r := by rw [if_neg (show ¬ (false = true) by decide)] at H; exact H
                                  clear H
                                  have H := H1
                                  clear H1
                                  by_cases c118 : t196 = true
                                  · subst c118
                                    have H1 : (if x7_1.length < 8796093022208 then (footwaylaw09_QueueOrder.j3 kj103 (wrap64 (1 + (Int.tmod (wrap64 ((Int.tmod a0 8) + 8)) 8))) (x7_1 ++ [(strOfNums y188)]) x8_1 y162 (y162.length : Int) x39_1 t191 t192 t195) else (none)) = some r := by rw [if_pos rfl] at H; exact H
                                    clear H
                                    have H := H1
                                    clear H1
                                    by_cases c119 : x7_1.length < 8796093022208
                                    · rw [if_pos c119] at H
                                      have LMc119 := Aside0.mk c119
                                      clear c119
                                      obtain ⟨y199, hy199⟩ : ∃ y_ : List ByteArray, y_ = (x7_1 ++ [(strOfNums y188)]) := ⟨_, rfl⟩
                                      replace H : (footwaylaw09_QueueOrder.j3 kj103 (wrap64 (1 + (Int.tmod (wrap64 ((Int.tmod a0 8) + 8)) 8))) y199 x8_1 y162 (y162.length : Int) x39_1 t191 t192 t195) = some r := by first | (rw [hy199]; with_reducible exact H) | (have H2_ := (Option.bind_some _ _).symm.trans H; rw [hy199]; with_reducible exact H2_) | (have H2_ := (Option.bind_some _ _).symm.trans H; with_reducible exact H2_) | with_reducible exact H | (rw [hy199]; exact H) | exact H
                                      have Ny199 := Aside0.mk hy199
                                      clear hy199
                                      have H' := Aside0.mk H
                                      clear H
                                      have hnb120 := NB198_161.out
                                      have hnc120 := NB161_198.out
                                      have hcz121_0 : wc.cell? ⟨gb198, 0, none⟩ = some (.int .i64 t191) := (blk_cell BK198.out 0).trans rfl
                                      have hcz121_1 : wc.cell? ⟨gb198, 1, none⟩ = some (.slice Ao114 t192.length co114) := (blk_cell BK198.out 1).trans rfl
                                      have hcz121_2 : wc.cell? ⟨gb198, 2, none⟩ = some (.int .i64 t195) := (blk_cell BK198.out 2).trans rfl
                                      have hfz121_0 := blk_frozen BK198.out 0
                                      have hfz121_1 := blk_frozen BK198.out 1
                                      have hfz121_2 := blk_frozen BK198.out 2
                                      have hcz122_0 : wc.cell? ⟨gb161, 0, none⟩ = some (.int .i64 x162000_1) := (blk_cell BK161.out 0).trans rfl
                                      have hcz122_1 : wc.cell? ⟨gb161, 1, none⟩ = some (.slice Ao109 x162001_1.length co109) := (blk_cell BK161.out 1).trans rfl
                                      have hcz122_2 : wc.cell? ⟨gb161, 2, none⟩ = some (.int .i64 x162002_1) := (blk_cell BK161.out 2).trans rfl
                                      have hfz122_0 := blk_frozen BK161.out 0
                                      have hfz122_1 := blk_frozen BK161.out 1
                                      have hfz122_2 := blk_frozen BK161.out 2
                                      go_wp2_with (first | ((with_reducible refine gate_builtin (b := .append) (xs := #[.tmp 73, .tmp 75]) rfl ?_); (try (refine gate_guard (by rfl) ?_; dsimp only)); at_builtin; refine Kd.Q_append Kd.string (w0 := w) w.heap.size rfl (.tmp 73) (.tmp 75) 33 9 (.string ⟨#[]⟩) 16 rfl Try.underlying33 info9 rfl (by decide) (by omega) u7 x7_1 (strOfNums y188) [.string (strOfNums y188)] (fun _ => True) (fun _ => False) rfl (by first | (go_simp; done) | (go_simp; rfl)) ?aP (fun _ hk => hk.elim) ?aF ?aO ?aB ?aS ?aL ?_; (case aP => exact rfl); (case aB => exact (by repeat (first | (with_reducible first | exact HB.out | apply below_alloc | apply pw_below_drewN | apply below_drew1 | refine below_set ?_ GE161.out | refine below_set ?_ GE198.out) | exact HB.out))); (case aF => exact (fun _ _ => trivial)); (case aO => exact (by (with_reducible repeat (first | apply Kd.Q_alloc | apply Kd.Q_drewN | apply Kd.Q_drew)); exact Kd.Q_mono (Kd.Q_far (p := ⟨gb161, 2, none⟩) (Kd.Q_far (p := ⟨gb161, 1, none⟩) (Kd.Q_far (p := ⟨gb161, 0, none⟩) (Kd.Q_types HO_7.out BK161.out (by decide)) (fun _ hk => hk.2) (.int .i64 t191)) (fun _ hk => hk.2) (.slice Ao114 t192.length co114)) (fun _ hk => hk.2) (.int .i64 t195)) (fun _ hk => trivial))); (case aS => exact (below_size (by repeat (first | (with_reducible first | exact HB.out | apply below_alloc | apply pw_below_drewN | apply below_drew1 | refine below_set ?_ GE161.out | refine below_set ?_ GE198.out) | exact HB.out)))); (case aL => have := LMc119.out; omega); intro v200 w123 ho hb hg hat; rw [← Ny199.out] at ho; have n0_ := Aside0.mk (Kd.V_afterv (ok := (fun k_ => k_ ≠ gb161 ∧ k_ ≠ gb198)) (by (with_reducible repeat (first | apply Kd.V_alloc | apply Kd.V_drewN | apply Kd.V_drew)); exact Kd.V_mono (Kd.V_far (p := ⟨gb161, 2, none⟩) (Kd.V_far (p := ⟨gb161, 1, none⟩) (Kd.V_far (p := ⟨gb161, 0, none⟩) (Kd.V_mono HO_162001.out (fun k_ hk => (⟨hk, hk.2.1⟩ : _ ∧ k_ ≠ gb161))) (fun _ hk => hk.2) (.int .i64 t191)) (fun _ hk => hk.2) (.slice Ao114 t192.length co114)) (fun _ hk => hk.2) (.int .i64 t195)) (fun _ hk => ⟨⟨hk.1.2.1, hk.1.2.2⟩, hk.1.1⟩)) hg hat); have n1_ := Aside0.mk (Kd.V_afterv (ok := (fun k_ => k_ ≠ gb161 ∧ k_ ≠ gb198)) (by (with_reducible repeat (first | apply Kd.V_alloc | apply Kd.V_drewN | apply Kd.V_drew)); exact Kd.V_mono (Kd.V_far (p := ⟨gb161, 2, none⟩) (Kd.V_far (p := ⟨gb161, 1, none⟩) (Kd.V_far (p := ⟨gb161, 0, none⟩) (Kd.V_mono HO_199001.out (fun k_ hk => (⟨hk, hk.2.1⟩ : _ ∧ k_ ≠ gb161))) (fun _ hk => hk.2) (.int .i64 t191)) (fun _ hk => hk.2) (.slice Ao114 t192.length co114)) (fun _ hk => hk.2) (.int .i64 t195)) (fun _ hk => ⟨⟨hk.1.2.1, hk.1.2.2⟩, hk.1.1⟩)) hg hat); have n2_ := Aside0.mk (blk_grown (g := gb161) (o := .cells #[.int .i64 t191, .slice Ao114 t192.length co114, .int .i64 t195] 35 (0, 0)) (by (with_reducible repeat (first | refine blk_drewN ?_ _ | refine blk_drew ?_ | refine blk_alloc ?_ _)); refine blk_put (cs := #[.int .i64 t191, .slice Ao114 t192.length co114, .int .i64 x162002_1]) ?_ 2 _ rfl; (with_reducible repeat (first | refine blk_drewN ?_ _ | refine blk_drew ?_ | refine blk_alloc ?_ _)); refine blk_put (cs := #[.int .i64 t191, .slice Ao109 x162001_1.length co109, .int .i64 x162002_1]) ?_ 1 _ rfl; (with_reducible repeat (first | refine blk_drewN ?_ _ | refine blk_drew ?_ | refine blk_alloc ?_ _)); refine blk_put (cs := #[.int .i64 x162000_1, .slice Ao109 x162001_1.length co109, .int .i64 x162002_1]) ?_ 0 _ rfl; (with_reducible repeat (first | refine blk_drewN ?_ _ | refine blk_drew ?_ | refine blk_alloc ?_ _)); exact BK161.out) hg (Kd.Q_ne HO_7.out BK161.out (by decide))); have n3_ := Aside0.mk (blk_grown (g := gb198) (o := .cells #[.int .i64 t191, .slice Ao114 t192.length co114, .int .i64 t195] 35 (0, 0)) (by (with_reducible repeat (first | refine blk_drewN ?_ _ | refine blk_drew ?_ | refine blk_alloc ?_ _)); refine blk_far ?_ NB198_161.out _; (with_reducible repeat (first | refine blk_drewN ?_ _ | refine blk_drew ?_ | refine blk_alloc ?_ _)); refine blk_far ?_ NB198_161.out _; (with_reducible repeat (first | refine blk_drewN ?_ _ | refine blk_drew ?_ | refine blk_alloc ?_ _)); refine blk_far ?_ NB198_161.out _; (with_reducible repeat (first | refine blk_drewN ?_ _ | refine blk_drew ?_ | refine blk_alloc ?_ _)); exact BK198.out) hg (Kd.Q_ne HO_7.out BK198.out (by decide))); have n4_ := Aside0.mk (hb); have n5_ := Aside0.mk (ho); clear HO_162001; clear HO_199001; clear BK161; clear BK198; clear HB; clear HO_7; have HO_162001 := n0_; have HO_199001 := n1_; have BK161 := n2_; have BK198 := n3_; have HB := n4_; have HO201 := n5_; clear n0_ n1_ n2_ n3_ n4_ n5_; clear ho hb hg hat))
                                      go_meet
                                      case rel => exact ⟨_, (y199), (x8_1), (t191), (t192), (t195), (.slice Ao114 t192.length co114), (by first | rfl | (simp; done) | (simp [*]; done)), H', ⟨by have := HK1.out; have := HJ45.out; have := HJ103.out; first | omega | exact Nat.le_refl _⟩, ⟨by (with_reducible repeat (first | apply Kd.Q_alloc | apply Kd.Q_drewN | apply Kd.Q_drew)); exact HO201.out⟩, ⟨by (with_reducible repeat (first | apply Kd.V_alloc | apply Kd.V_drewN | apply Kd.V_drew)); exact Kd.V_mono HO_199001.out (fun _ hk => ⟨hk.2, hk.1.1⟩)⟩, ⟨by (with_reducible repeat (first | refine blk_drewN ?_ _ | refine blk_drew ?_ | refine blk_alloc ?_ _)); exact BK161.out⟩, ⟨by repeat (first | (with_reducible first | exact HB.out | apply below_alloc | apply pw_below_drewN | apply below_drew1 | refine below_set ?_ GE161.out | refine below_set ?_ GE198.out) | exact HB.out)⟩⟩
                                    · rw [if_neg c119] at H
                                      exact absurd H (by simp)
                                  · replace c118 := Bool.eq_false_iff.mpr c118
                                    subst c118
                                    have H1 : (footwaylaw09_QueueOrder.j3 kj103 (wrap64 (1 + (Int.tmod (wrap64 ((Int.tmod a0 8) + 8)) 8))) x7_1 (wrap64 (x8_1 + 1)) y162 (y162.length : Int) x39_1 t191 t192 t195) = some r := by rw [if_neg (show ¬ (false = true) by decide)] at H; exact H
                                    clear H
                                    have H := H1
                                    clear H1
                                    have H' := Aside0.mk H
                                    clear H
                                    have hnb124 := NB198_161.out
                                    have hnc124 := NB161_198.out
                                    have hcz125_0 : wc.cell? ⟨gb198, 0, none⟩ = some (.int .i64 t191) := (blk_cell BK198.out 0).trans rfl
                                    have hcz125_1 : wc.cell? ⟨gb198, 1, none⟩ = some (.slice Ao114 t192.length co114) := (blk_cell BK198.out 1).trans rfl
                                    have hcz125_2 : wc.cell? ⟨gb198, 2, none⟩ = some (.int .i64 t195) := (blk_cell BK198.out 2).trans rfl
                                    have hfz125_0 := blk_frozen BK198.out 0
                                    have hfz125_1 := blk_frozen BK198.out 1
                                    have hfz125_2 := blk_frozen BK198.out 2
                                    have hcz126_0 : wc.cell? ⟨gb161, 0, none⟩ = some (.int .i64 x162000_1) := (blk_cell BK161.out 0).trans rfl
                                    have hcz126_1 : wc.cell? ⟨gb161, 1, none⟩ = some (.slice Ao109 x162001_1.length co109) := (blk_cell BK161.out 1).trans rfl
                                    have hcz126_2 : wc.cell? ⟨gb161, 2, none⟩ = some (.int .i64 x162002_1) := (blk_cell BK161.out 2).trans rfl
                                    have hfz126_0 := blk_frozen BK161.out 0
                                    have hfz126_1 := blk_frozen BK161.out 1
                                    have hfz126_2 := blk_frozen BK161.out 2
                                    go_wp2
                                    go_meet
                                    case rel => exact ⟨_, (x7_1), (wrap64 (x8_1 + 1)), (t191), (t192), (t195), (.slice Ao114 t192.length co114), (by first | rfl | (simp; done) | (simp [*]; done)), H', ⟨by have := HK1.out; have := HJ45.out; have := HJ103.out; first | omega | exact Nat.le_refl _⟩, ⟨by (with_reducible repeat (first | apply Kd.Q_alloc | apply Kd.Q_drewN | apply Kd.Q_drew)); exact Kd.Q_mono (Kd.Q_far (p := ⟨gb161, 2, none⟩) (Kd.Q_far (p := ⟨gb161, 1, none⟩) (Kd.Q_far (p := ⟨gb161, 0, none⟩) (Kd.Q_types HO_7.out BK161.out (by decide)) (fun _ hk => hk.2) (.int .i64 t191)) (fun _ hk => hk.2) (.slice Ao114 t192.length co114)) (fun _ hk => hk.2) (.int .i64 t195)) (fun _ hk => trivial)⟩, ⟨by (with_reducible repeat (first | apply Kd.V_alloc | apply Kd.V_drewN | apply Kd.V_drew)); exact Kd.V_mono (Kd.V_far (p := ⟨gb161, 2, none⟩) (Kd.V_far (p := ⟨gb161, 1, none⟩) (Kd.V_far (p := ⟨gb161, 0, none⟩) (Kd.V_mono HO_199001.out (fun k_ hk => (⟨hk, hk.2.1⟩ : _ ∧ k_ ≠ gb161))) (fun _ hk => hk.2) (.int .i64 t191)) (fun _ hk => hk.2) (.slice Ao114 t192.length co114)) (fun _ hk => hk.2) (.int .i64 t195)) (fun _ hk => ⟨hk.1.1, hk.1.2.1⟩)⟩, ⟨by (with_reducible repeat (first | refine blk_drewN ?_ _ | refine blk_drew ?_ | refine blk_alloc ?_ _)); refine blk_put (cs := #[.int .i64 t191, .slice Ao114 t192.length co114, .int .i64 x162002_1]) ?_ 2 _ rfl; (with_reducible repeat (first | refine blk_drewN ?_ _ | refine blk_drew ?_ | refine blk_alloc ?_ _)); refine blk_put (cs := #[.int .i64 t191, .slice Ao109 x162001_1.length co109, .int .i64 x162002_1]) ?_ 1 _ rfl; (with_reducible repeat (first | refine blk_drewN ?_ _ | refine blk_drew ?_ | refine blk_alloc ?_ _)); refine blk_put (cs := #[.int .i64 x162000_1, .slice Ao109 x162001_1.length co109, .int .i64 x162002_1]) ?_ 0 _ rfl; (with_reducible repeat (first | refine blk_drewN ?_ _ | refine blk_drew ?_ | refine blk_alloc ?_ _)); exact BK161.out⟩, ⟨by repeat (first | (with_reducible first | exact HB.out | apply below_alloc | apply pw_below_drewN | apply below_drew1 | refine below_set ?_ GE161.out | refine below_set ?_ GE198.out) | exact HB.out)⟩⟩
                  case rest =>
                    clear HC17
                    try clear c1
                    try clear p1
                    try clear q1
                    try clear hx1
                    try clear hcv1
                    try clear qi1
                    try clear c2
                    try clear p2
                    try clear c3
                    try clear c4
                    try clear c4b0
                    try clear c4b1
                    try clear c5
                    try clear c6
                    try clear c6b0
                    try clear c6b1
                    try clear p6
                    try clear c7
                    try clear c7b0
                    try clear c7b1
                    try clear c8
                    try clear q8
                    try clear c9
                    try clear hcv10
                    try clear c11
                    try clear c12
                    try clear q13
                    try clear c14
                    try clear c14b0
                    try clear c15
                    try clear c15b0
                    try clear c16
                    try clear c16b0
                    try clear p16
                    try clear q16
                    try clear hx16
                    try clear c18
                    try clear c18b0
                    try clear c18b1
                    try clear p18
                    try clear q18
                    try clear hx18
                    try clear qi18
                    try clear c20
                    try clear c20b0
                    try clear c20b1
                    try clear c21
                    try clear c21b0
                    try clear c21b1
                    try clear c22
                    try clear c23
                    try clear c24
                    try clear c26
                    try clear c35
                    try clear c43
                    try clear c47
                    try clear c47b0
                    try clear c47b1
                    try clear c48
                    try clear c48b0
                    try clear c48b1
                    try clear c49
                    try clear c51
                    try clear c51b0
                    try clear c51b1
                    try clear c51b2
                    try clear c52
                    try clear c52b0
                    try clear c52b1
                    try clear c57
                    try clear p64
                    try clear c65
                    try clear c69
                    try clear c69b0
                    try clear c69b1
                    try clear c70
                    try clear c70b0
                    try clear c70b1
                    try clear c71
                    try clear c71b0
                    try clear c71b1
                    try clear c72
                    try clear c72b0
                    try clear c72b1
                    try clear c77
                    try clear c83
                    try clear q83
                    try clear c91
                    try clear c99
                    try clear hcv107
                    try clear c112
                    try clear c115
                    try clear c115b0
                    try clear c115b1
                    try clear c117
                    try clear c118
                    try clear c119
                    try clear c120
                    try clear c124
                    try clear hcz100_0
                    try clear hcz100_1
                    try clear hcz100_2
                    try clear hcz108_0
                    try clear hcz108_1
                    try clear hcz108_2
                    try clear hcz10_0
                    try clear hcz10_1
                    try clear hcz10_2
                    try clear hcz113_0
                    try clear hcz113_1
                    try clear hcz113_2
                    try clear hcz121_0
                    try clear hcz121_1
                    try clear hcz121_2
                    try clear hcz122_0
                    try clear hcz122_1
                    try clear hcz122_2
                    try clear hcz125_0
                    try clear hcz125_1
                    try clear hcz125_2
                    try clear hcz126_0
                    try clear hcz126_1
                    try clear hcz126_2
                    try clear hcz22_0
                    try clear hcz22_1
                    try clear hcz22_2
                    try clear hcz27_0
                    try clear hcz27_1
                    try clear hcz27_2
                    try clear hcz30_0
                    try clear hcz30_1
                    try clear hcz30_2
                    try clear hcz31_0
                    try clear hcz31_1
                    try clear hcz31_2
                    try clear hcz36_0
                    try clear hcz36_1
                    try clear hcz36_2
                    try clear hcz39_0
                    try clear hcz39_1
                    try clear hcz39_2
                    try clear hcz44_0
                    try clear hcz44_1
                    try clear hcz44_2
                    try clear hcz53_0
                    try clear hcz53_1
                    try clear hcz53_2
                    try clear hcz58_0
                    try clear hcz58_1
                    try clear hcz58_2
                    try clear hcz61_0
                    try clear hcz61_1
                    try clear hcz61_2
                    try clear hcz66_0
                    try clear hcz66_1
                    try clear hcz66_2
                    try clear hcz73_0
                    try clear hcz73_1
                    try clear hcz73_2
                    try clear hcz78_0
                    try clear hcz78_1
                    try clear hcz78_2
                    try clear hcz87_0
                    try clear hcz87_1
                    try clear hcz87_2
                    try clear hcz92_0
                    try clear hcz92_1
                    try clear hcz92_2
                    try clear hcz95_0
                    try clear hcz95_1
                    try clear hcz95_2
                    try clear hfz100_0
                    try clear hfz100_1
                    try clear hfz100_2
                    try clear hfz108_0
                    try clear hfz108_1
                    try clear hfz108_2
                    try clear hfz10_0
                    try clear hfz10_1
                    try clear hfz10_2
                    try clear hfz113_0
                    try clear hfz113_1
                    try clear hfz113_2
                    try clear hfz121_0
                    try clear hfz121_1
                    try clear hfz121_2
                    try clear hfz122_0
                    try clear hfz122_1
                    try clear hfz122_2
                    try clear hfz125_0
                    try clear hfz125_1
                    try clear hfz125_2
                    try clear hfz126_0
                    try clear hfz126_1
                    try clear hfz126_2
                    try clear hfz22_0
                    try clear hfz22_1
                    try clear hfz22_2
                    try clear hfz27_0
                    try clear hfz27_1
                    try clear hfz27_2
                    try clear hfz30_0
                    try clear hfz30_1
                    try clear hfz30_2
                    try clear hfz31_0
                    try clear hfz31_1
                    try clear hfz31_2
                    try clear hfz36_0
                    try clear hfz36_1
                    try clear hfz36_2
                    try clear hfz39_0
                    try clear hfz39_1
                    try clear hfz39_2
                    try clear hfz44_0
                    try clear hfz44_1
                    try clear hfz44_2
                    try clear hfz53_0
                    try clear hfz53_1
                    try clear hfz53_2
                    try clear hfz58_0
                    try clear hfz58_1
                    try clear hfz58_2
                    try clear hfz61_0
                    try clear hfz61_1
                    try clear hfz61_2
                    try clear hfz66_0
                    try clear hfz66_1
                    try clear hfz66_2
                    try clear hfz73_0
                    try clear hfz73_1
                    try clear hfz73_2
                    try clear hfz78_0
                    try clear hfz78_1
                    try clear hfz78_2
                    try clear hfz87_0
                    try clear hfz87_1
                    try clear hfz87_2
                    try clear hfz92_0
                    try clear hfz92_1
                    try clear hfz92_2
                    try clear hfz95_0
                    try clear hfz95_1
                    try clear hfz95_2
                    try clear hx167_0
                    try clear hx184_0
                    try clear p1
                    try clear p16
                    try clear p167
                    try clear p18
                    try clear p184
                    try clear p2
                    try clear p6
                    try clear p64
                    try clear q1
                    try clear q13
                    try clear q16
                    try clear q167
                    try clear q18
                    try clear q184
                    try clear q8
                    try clear q83
                    obtain ⟨kq, x7_16, x8_16, x162000_16, x162001_16, x162002_16, u162001, rfl, HA, HJ16, HO_7, HO_162001, BK161, HB⟩ := hcut
                    cases kq with
                    | zero => exact absurd HA.out (by simp [footwaylaw09_QueueOrder.j3])
                    | succ kj16 =>
                      have H := HA.out
                      clear HA
                      simp only [footwaylaw09_QueueOrder.j3] at H
                      replace H := Option.bind_eq_some_iff.mp H
                      obtain ⟨t202, A1270, H⟩ := H
                      replace H : (if t202 = true then (if x162002_16 = x8_16 then (if x162000_16 = (wrap64 (1 + (Int.tmod (wrap64 ((Int.tmod a0 8) + 8)) 8))) then ((queue_Right.f x162000_16 x162001_16 x162002_16).bind fun t203 => (if t203 = true then (footwaylaw09_QueueOrder.l0 kj16 (wrap64 (1 + (Int.tmod (wrap64 ((Int.tmod a0 8) + 8)) 8))) x7_16 x8_16 y162 (y162.length : Int) (wrap64 (x39_1 + 1)) x162000_16 x162001_16 x162002_16) else (some false))) else (some false)) else (some false)) else (some false)) = some r := H
                      have A127 := Aside0.mk A1270
                      clear A1270
                      by_cases c128 : t202 = true
                      · subst c128
                        have H1 : (if x162002_16 = x8_16 then (if x162000_16 = (wrap64 (1 + (Int.tmod (wrap64 ((Int.tmod a0 8) + 8)) 8))) then ((queue_Right.f x162000_16 x162001_16 x162002_16).bind fun t203 => (if t203 = true then (footwaylaw09_QueueOrder.l0 kj16 (wrap64 (1 + (Int.tmod (wrap64 ((Int.tmod a0 8) + 8)) 8))) x7_16 x8_16 y162 (y162.length : Int) (wrap64 (x39_1 + 1)) x162000_16 x162001_16 x162002_16) else (some false))) else (some false)) else (some false)) = some r := by rw [if_pos rfl] at H; exact H
                        clear H
                        have H := H1
                        clear H1
                        by_cases c129 : x162002_16 = x8_16
                        · rw [if_pos c129] at H
                          have c129b0 : (x162002_16 == x8_16) = true := beq_iff_eq.mpr c129
                          have c129b1 : (x162002_16 != x8_16) = false := bne_eq_false_iff_eq.mpr c129
                          clear c129
                          by_cases c130 : x162000_16 = (wrap64 (1 + (Int.tmod (wrap64 ((Int.tmod a0 8) + 8)) 8)))
                          · rw [if_pos c130] at H
                            have c130b0 : (x162000_16 == (wrap64 (1 + (Int.tmod (wrap64 ((Int.tmod a0 8) + 8)) 8)))) = true := beq_iff_eq.mpr c130
                            have c130b1 : (x162000_16 != (wrap64 (1 + (Int.tmod (wrap64 ((Int.tmod a0 8) + 8)) 8)))) = false := bne_eq_false_iff_eq.mpr c130
                            clear c130
                            replace H := Option.bind_eq_some_iff.mp H
                            obtain ⟨t203, A1310, H⟩ := H
                            replace H : (if t203 = true then (footwaylaw09_QueueOrder.l0 kj16 (wrap64 (1 + (Int.tmod (wrap64 ((Int.tmod a0 8) + 8)) 8))) x7_16 x8_16 y162 (y162.length : Int) (wrap64 (x39_1 + 1)) x162000_16 x162001_16 x162002_16) else (some false)) = some r := H
                            have A131 := Aside0.mk A1310
                            clear A1310
                            by_cases c132 : t203 = true
                            · subst c132
                              have H1 : (footwaylaw09_QueueOrder.l0 kj16 (wrap64 (1 + (Int.tmod (wrap64 ((Int.tmod a0 8) + 8)) 8))) x7_16 x8_16 y162 (y162.length : Int) (wrap64 (x39_1 + 1)) x162000_16 x162001_16 x162002_16) = some r := by rw [if_pos rfl] at H; exact H
                              clear H
                              have H := H1
                              clear H1
                              have H' := Aside0.mk H
                              clear H
                              have hcz133_0 : wc.cell? ⟨gb161, 0, none⟩ = some (.int .i64 x162000_16) := (blk_cell BK161.out 0).trans rfl
                              have hcz133_1 : wc.cell? ⟨gb161, 1, none⟩ = some (u162001) := (blk_cell BK161.out 1).trans rfl
                              have hcz133_2 : wc.cell? ⟨gb161, 2, none⟩ = some (.int .i64 x162002_16) := (blk_cell BK161.out 2).trans rfl
                              have hfz133_0 := blk_frozen BK161.out 0
                              have hfz133_1 := blk_frozen BK161.out 1
                              have hfz133_2 := blk_frozen BK161.out 2
                              obtain ⟨Ao134, co134, eo134⟩ := Kd.V_slice HO_162001.out
                              subst eo134
                              obtain ⟨Ao135, co135, eo135, _⟩ := Kd.Q_slice HO_7.out
                              subst eo135
                              go_wp2_with (first | ((with_reducible refine gate_callee (f := 31) rfl ?_); refine goesL_ (some 129) rfl rfl Try.func31 (by kernel_rfl) rfl #[.slice Ao134 x162001_16.length co134, .slice Ao135 x7_16.length co135] rfl (by (try simp only [List.map_toArray, List.map_cons, List.map_nil]); first | done | rfl | (simp only [List.length_drop, List.length_take]; rfl)) ?_; (with_reducible refine (footwayref09_Rows.calls kj16 _ _ x162001_16 _ _ x7_16 true _ ?side1 ?side2 ?side3 ?side4 A127.out).mono ?_); (case side1 => repeat (first | exact (Kd.V_reads' HO_162001.out).2.2 | (with_reducible refine Kd.C_alloc ?_ _) | (with_reducible refine Kd.C_drewN ?_ _) | (with_reducible refine Kd.C_drew ?_))); (case side2 => exact (Kd.V_reads' HO_162001.out).2.1); (case side3 => repeat (first | exact (Kd.Q_reads' HO_7.out).2.2 | (with_reducible refine Kd.C_alloc ?_ _) | (with_reducible refine Kd.C_drewN ?_ _) | (with_reducible refine Kd.C_drew ?_))); (case side4 => exact (Kd.Q_reads' HO_7.out).2.1); rintro e w' ⟨rfl, ⟨nd, rfl⟩⟩; refine ⟨_, rfl, ?_⟩) | (go_at_call 25; (with_reducible refine (queue_Right.calls x162000_16 _ _ x162001_16 x162002_16 true _ ?side1 ?side2 A131.out).mono ?_); (case side1 => repeat (first | exact (Kd.V_reads' HO_162001.out).2.2 | (with_reducible refine Kd.C_alloc ?_ _) | (with_reducible refine Kd.C_drewN ?_ _) | (with_reducible refine Kd.C_drew ?_))); (case side2 => exact (Kd.V_reads' HO_162001.out).2.1); rintro e w136 ⟨rfl, hb⟩; have n0_ := Aside0.mk (Kd.Q_below (by (with_reducible repeat (first | apply Kd.Q_alloc | apply Kd.Q_drewN | apply Kd.Q_drew)); exact HO_7.out) hb); have n1_ := Aside0.mk (Kd.V_below (by (with_reducible repeat (first | apply Kd.V_alloc | apply Kd.V_drewN | apply Kd.V_drew)); exact HO_162001.out) hb); have n2_ := Aside0.mk (blk_below (g := gb161) (o := .cells #[.int .i64 x162000_16, .slice Ao134 x162001_16.length co134, .int .i64 x162002_16] 35 (0, 0)) (by (with_reducible repeat (first | refine blk_drewN ?_ _ | refine blk_drew ?_ | refine blk_alloc ?_ _)); exact BK161.out) hb); have n3_ := Aside0.mk (below_step (by repeat (first | (with_reducible first | exact HB.out | apply below_alloc | apply pw_below_drewN | apply below_drew1 | refine below_set ?_ GE161.out) | exact HB.out)) hb); clear HO_7; clear HO_162001; clear BK161; clear HB; have HO_7 := n0_; have HO_162001 := n1_; have BK161 := n2_; have HB := n3_; clear n0_ n1_ n2_ n3_; (try clear hb); (try clear hb2); (try clear hk); (try clear hi)))
                              go_roundg kj16
                              case measure => have := HK1.out; have := HJ16.out; omega
                              case rel => exact ⟨(x7_16), (x8_16), (wrap64 (x39_1 + 1)), (x162000_16), (x162001_16), (x162002_16), (.slice Ao134 x162001_16.length co134), (by first | rfl | (simp; done) | (simp [*]; done)), (by first | rfl | (simp; done) | (simp [*]; done)), H', ⟨by have := HK1.out; have := HJ16.out; omega⟩, ⟨by (with_reducible repeat (first | apply Kd.Q_alloc | apply Kd.Q_drewN | apply Kd.Q_drew)); exact HO_7.out⟩, ⟨by (with_reducible repeat (first | apply Kd.V_alloc | apply Kd.V_drewN | apply Kd.V_drew)); exact HO_162001.out⟩, ⟨by (with_reducible repeat (first | refine blk_drewN ?_ _ | refine blk_drew ?_ | refine blk_alloc ?_ _)); exact BK161.out⟩, ⟨by repeat (first | (with_reducible first | exact HB.out | apply below_alloc | apply pw_below_drewN | apply below_drew1 | refine below_set ?_ GE161.out) | exact HB.out)⟩⟩
                            · replace c132 := Bool.eq_false_iff.mpr c132
                              subst c132
                              have H1 : (some false) = some r := by rw [if_neg (show ¬ (false = true) by decide)] at H; exact H
                              clear H
                              have H := H1
                              clear H1
                              obtain rfl := Option.some.inj H
                              have hcz137_0 : wc.cell? ⟨gb161, 0, none⟩ = some (.int .i64 x162000_16) := (blk_cell BK161.out 0).trans rfl
                              have hcz137_1 : wc.cell? ⟨gb161, 1, none⟩ = some (u162001) := (blk_cell BK161.out 1).trans rfl
                              have hcz137_2 : wc.cell? ⟨gb161, 2, none⟩ = some (.int .i64 x162002_16) := (blk_cell BK161.out 2).trans rfl
                              have hfz137_0 := blk_frozen BK161.out 0
                              have hfz137_1 := blk_frozen BK161.out 1
                              have hfz137_2 := blk_frozen BK161.out 2
                              obtain ⟨Ao138, co138, eo138⟩ := Kd.V_slice HO_162001.out
                              subst eo138
                              obtain ⟨Ao139, co139, eo139, _⟩ := Kd.Q_slice HO_7.out
                              subst eo139
                              go_wp2_with (first | ((with_reducible refine gate_callee (f := 31) rfl ?_); refine goesL_ (some 129) rfl rfl Try.func31 (by kernel_rfl) rfl #[.slice Ao138 x162001_16.length co138, .slice Ao139 x7_16.length co139] rfl (by (try simp only [List.map_toArray, List.map_cons, List.map_nil]); first | done | rfl | (simp only [List.length_drop, List.length_take]; rfl)) ?_; (with_reducible refine (footwayref09_Rows.calls kj16 _ _ x162001_16 _ _ x7_16 true _ ?side1 ?side2 ?side3 ?side4 A127.out).mono ?_); (case side1 => repeat (first | exact (Kd.V_reads' HO_162001.out).2.2 | (with_reducible refine Kd.C_alloc ?_ _) | (with_reducible refine Kd.C_drewN ?_ _) | (with_reducible refine Kd.C_drew ?_))); (case side2 => exact (Kd.V_reads' HO_162001.out).2.1); (case side3 => repeat (first | exact (Kd.Q_reads' HO_7.out).2.2 | (with_reducible refine Kd.C_alloc ?_ _) | (with_reducible refine Kd.C_drewN ?_ _) | (with_reducible refine Kd.C_drew ?_))); (case side4 => exact (Kd.Q_reads' HO_7.out).2.1); rintro e w' ⟨rfl, ⟨nd, rfl⟩⟩; refine ⟨_, rfl, ?_⟩) | (go_at_call 25; (with_reducible refine (queue_Right.calls x162000_16 _ _ x162001_16 x162002_16 false _ ?side1 ?side2 A131.out).mono ?_); (case side1 => repeat (first | exact (Kd.V_reads' HO_162001.out).2.2 | (with_reducible refine Kd.C_alloc ?_ _) | (with_reducible refine Kd.C_drewN ?_ _) | (with_reducible refine Kd.C_drew ?_))); (case side2 => exact (Kd.V_reads' HO_162001.out).2.1); rintro e w140 ⟨rfl, hb⟩; have n0_ := Aside0.mk (Kd.Q_below (by (with_reducible repeat (first | apply Kd.Q_alloc | apply Kd.Q_drewN | apply Kd.Q_drew)); exact HO_7.out) hb); have n1_ := Aside0.mk (Kd.V_below (by (with_reducible repeat (first | apply Kd.V_alloc | apply Kd.V_drewN | apply Kd.V_drew)); exact HO_162001.out) hb); have n2_ := Aside0.mk (blk_below (g := gb161) (o := .cells #[.int .i64 x162000_16, .slice Ao138 x162001_16.length co138, .int .i64 x162002_16] 35 (0, 0)) (by (with_reducible repeat (first | refine blk_drewN ?_ _ | refine blk_drew ?_ | refine blk_alloc ?_ _)); exact BK161.out) hb); have n3_ := Aside0.mk (below_step (by repeat (first | (with_reducible first | exact HB.out | apply below_alloc | apply pw_below_drewN | apply below_drew1 | refine below_set ?_ GE161.out) | exact HB.out)) hb); clear HO_7; clear HO_162001; clear BK161; clear HB; have HO_7 := n0_; have HO_162001 := n1_; have BK161 := n2_; have HB := n3_; clear n0_ n1_ n2_ n3_; (try clear hb); (try clear hb2); (try clear hk); (try clear hi)))
                              go_ret
                              exact ⟨by first | rfl | (simp [errW_none, errW_some] <;> rfl) | (simp only [← hji5]; first | rfl | (simp [errW_none, errW_some] <;> rfl)) | (simp [*, errW_none, errW_some] <;> rfl), by repeat (first | (with_reducible first | exact HB.out | apply below_alloc | apply pw_below_drewN | apply below_drew1 | refine below_set ?_ GE161.out) | exact HB.out)⟩
                          · rw [if_neg c130] at H
                            have c130b0 : (x162000_16 == (wrap64 (1 + (Int.tmod (wrap64 ((Int.tmod a0 8) + 8)) 8)))) = false := beq_eq_false_iff_ne.mpr c130
                            have c130b1 : (x162000_16 != (wrap64 (1 + (Int.tmod (wrap64 ((Int.tmod a0 8) + 8)) 8)))) = true := bne_iff_ne.mpr c130
                            obtain rfl := Option.some.inj H
                            have hcz141_0 : wc.cell? ⟨gb161, 0, none⟩ = some (.int .i64 x162000_16) := (blk_cell BK161.out 0).trans rfl
                            have hcz141_1 : wc.cell? ⟨gb161, 1, none⟩ = some (u162001) := (blk_cell BK161.out 1).trans rfl
                            have hcz141_2 : wc.cell? ⟨gb161, 2, none⟩ = some (.int .i64 x162002_16) := (blk_cell BK161.out 2).trans rfl
                            have hfz141_0 := blk_frozen BK161.out 0
                            have hfz141_1 := blk_frozen BK161.out 1
                            have hfz141_2 := blk_frozen BK161.out 2
                            obtain ⟨Ao142, co142, eo142⟩ := Kd.V_slice HO_162001.out
                            subst eo142
                            obtain ⟨Ao143, co143, eo143, _⟩ := Kd.Q_slice HO_7.out
                            subst eo143
                            go_wp2_with (first | ((with_reducible refine gate_callee (f := 31) rfl ?_); refine goesL_ (some 129) rfl rfl Try.func31 (by kernel_rfl) rfl #[.slice Ao142 x162001_16.length co142, .slice Ao143 x7_16.length co143] rfl (by (try simp only [List.map_toArray, List.map_cons, List.map_nil]); first | done | rfl | (simp only [List.length_drop, List.length_take]; rfl)) ?_; (with_reducible refine (footwayref09_Rows.calls kj16 _ _ x162001_16 _ _ x7_16 true _ ?side1 ?side2 ?side3 ?side4 A127.out).mono ?_); (case side1 => repeat (first | exact (Kd.V_reads' HO_162001.out).2.2 | (with_reducible refine Kd.C_alloc ?_ _) | (with_reducible refine Kd.C_drewN ?_ _) | (with_reducible refine Kd.C_drew ?_))); (case side2 => exact (Kd.V_reads' HO_162001.out).2.1); (case side3 => repeat (first | exact (Kd.Q_reads' HO_7.out).2.2 | (with_reducible refine Kd.C_alloc ?_ _) | (with_reducible refine Kd.C_drewN ?_ _) | (with_reducible refine Kd.C_drew ?_))); (case side4 => exact (Kd.Q_reads' HO_7.out).2.1); rintro e w' ⟨rfl, ⟨nd, rfl⟩⟩; refine ⟨_, rfl, ?_⟩))
                            go_ret
                            exact ⟨by first | rfl | (simp [errW_none, errW_some] <;> rfl) | (simp only [← hji5]; first | rfl | (simp [errW_none, errW_some] <;> rfl)) | (simp [*, errW_none, errW_some] <;> rfl), by repeat (first | (with_reducible first | exact HB.out | apply below_alloc | apply pw_below_drewN | apply below_drew1 | refine below_set ?_ GE161.out) | exact HB.out)⟩
                        · rw [if_neg c129] at H
                          have c129b0 : (x162002_16 == x8_16) = false := beq_eq_false_iff_ne.mpr c129
                          have c129b1 : (x162002_16 != x8_16) = true := bne_iff_ne.mpr c129
                          obtain rfl := Option.some.inj H
                          have hcz144_0 : wc.cell? ⟨gb161, 0, none⟩ = some (.int .i64 x162000_16) := (blk_cell BK161.out 0).trans rfl
                          have hcz144_1 : wc.cell? ⟨gb161, 1, none⟩ = some (u162001) := (blk_cell BK161.out 1).trans rfl
                          have hcz144_2 : wc.cell? ⟨gb161, 2, none⟩ = some (.int .i64 x162002_16) := (blk_cell BK161.out 2).trans rfl
                          have hfz144_0 := blk_frozen BK161.out 0
                          have hfz144_1 := blk_frozen BK161.out 1
                          have hfz144_2 := blk_frozen BK161.out 2
                          obtain ⟨Ao145, co145, eo145⟩ := Kd.V_slice HO_162001.out
                          subst eo145
                          obtain ⟨Ao146, co146, eo146, _⟩ := Kd.Q_slice HO_7.out
                          subst eo146
                          go_wp2_with (first | ((with_reducible refine gate_callee (f := 31) rfl ?_); refine goesL_ (some 129) rfl rfl Try.func31 (by kernel_rfl) rfl #[.slice Ao145 x162001_16.length co145, .slice Ao146 x7_16.length co146] rfl (by (try simp only [List.map_toArray, List.map_cons, List.map_nil]); first | done | rfl | (simp only [List.length_drop, List.length_take]; rfl)) ?_; (with_reducible refine (footwayref09_Rows.calls kj16 _ _ x162001_16 _ _ x7_16 true _ ?side1 ?side2 ?side3 ?side4 A127.out).mono ?_); (case side1 => repeat (first | exact (Kd.V_reads' HO_162001.out).2.2 | (with_reducible refine Kd.C_alloc ?_ _) | (with_reducible refine Kd.C_drewN ?_ _) | (with_reducible refine Kd.C_drew ?_))); (case side2 => exact (Kd.V_reads' HO_162001.out).2.1); (case side3 => repeat (first | exact (Kd.Q_reads' HO_7.out).2.2 | (with_reducible refine Kd.C_alloc ?_ _) | (with_reducible refine Kd.C_drewN ?_ _) | (with_reducible refine Kd.C_drew ?_))); (case side4 => exact (Kd.Q_reads' HO_7.out).2.1); rintro e w' ⟨rfl, ⟨nd, rfl⟩⟩; refine ⟨_, rfl, ?_⟩))
                          go_ret
                          exact ⟨by first | rfl | (simp [errW_none, errW_some] <;> rfl) | (simp only [← hji5]; first | rfl | (simp [errW_none, errW_some] <;> rfl)) | (simp [*, errW_none, errW_some] <;> rfl), by repeat (first | (with_reducible first | exact HB.out | apply below_alloc | apply pw_below_drewN | apply below_drew1 | refine below_set ?_ GE161.out) | exact HB.out)⟩
                      · replace c128 := Bool.eq_false_iff.mpr c128
                        subst c128
                        have H1 : (some false) = some r := by rw [if_neg (show ¬ (false = true) by decide)] at H; exact H
                        clear H
                        have H := H1
                        clear H1
                        obtain rfl := Option.some.inj H
                        have hcz147_0 : wc.cell? ⟨gb161, 0, none⟩ = some (.int .i64 x162000_16) := (blk_cell BK161.out 0).trans rfl
                        have hcz147_1 : wc.cell? ⟨gb161, 1, none⟩ = some (u162001) := (blk_cell BK161.out 1).trans rfl
                        have hcz147_2 : wc.cell? ⟨gb161, 2, none⟩ = some (.int .i64 x162002_16) := (blk_cell BK161.out 2).trans rfl
                        have hfz147_0 := blk_frozen BK161.out 0
                        have hfz147_1 := blk_frozen BK161.out 1
                        have hfz147_2 := blk_frozen BK161.out 2
                        obtain ⟨Ao148, co148, eo148⟩ := Kd.V_slice HO_162001.out
                        subst eo148
                        obtain ⟨Ao149, co149, eo149, _⟩ := Kd.Q_slice HO_7.out
                        subst eo149
                        go_wp2_with (first | ((with_reducible refine gate_callee (f := 31) rfl ?_); refine goesL_ (some 129) rfl rfl Try.func31 (by kernel_rfl) rfl #[.slice Ao148 x162001_16.length co148, .slice Ao149 x7_16.length co149] rfl (by (try simp only [List.map_toArray, List.map_cons, List.map_nil]); first | done | rfl | (simp only [List.length_drop, List.length_take]; rfl)) ?_; (with_reducible refine (footwayref09_Rows.calls kj16 _ _ x162001_16 _ _ x7_16 false _ ?side1 ?side2 ?side3 ?side4 A127.out).mono ?_); (case side1 => repeat (first | exact (Kd.V_reads' HO_162001.out).2.2 | (with_reducible refine Kd.C_alloc ?_ _) | (with_reducible refine Kd.C_drewN ?_ _) | (with_reducible refine Kd.C_drew ?_))); (case side2 => exact (Kd.V_reads' HO_162001.out).2.1); (case side3 => repeat (first | exact (Kd.Q_reads' HO_7.out).2.2 | (with_reducible refine Kd.C_alloc ?_ _) | (with_reducible refine Kd.C_drewN ?_ _) | (with_reducible refine Kd.C_drew ?_))); (case side4 => exact (Kd.Q_reads' HO_7.out).2.1); rintro e w' ⟨rfl, ⟨nd, rfl⟩⟩; refine ⟨_, rfl, ?_⟩))
                        go_ret
                        exact ⟨by first | rfl | (simp [errW_none, errW_some] <;> rfl) | (simp only [← hji5]; first | rfl | (simp [errW_none, errW_some] <;> rfl)) | (simp [*, errW_none, errW_some] <;> rfl), by repeat (first | (with_reducible first | exact HB.out | apply below_alloc | apply pw_below_drewN | apply below_drew1 | refine below_set ?_ GE161.out) | exact HB.out)⟩
                · rw [if_neg c16] at H
                  exact absurd H (by simp)
              · rw [if_neg c15] at H
                exact absurd H (by simp)
            · rw [if_neg c14] at H
              have c14b0 : decide (x39_1 < (y162.length : Int)) = false := decide_eq_false c14
              clear c14
              replace H := Option.bind_eq_some_iff.mp H
              obtain ⟨t166, A1500, H⟩ := H
              replace H : (some t166) = some r := H
              have A150 := Aside0.mk A1500
              clear A1500
              obtain rfl := Option.some.inj H
              go_wp2_with (first | ((with_reducible refine gate_callee (f := 27) rfl ?_); refine goesL_ (some 149) rfl rfl Try.func27 (by kernel_rfl) rfl #[] rfl (by (try simp only [List.map_toArray, List.map_cons, List.map_nil]); first | done | rfl | (simp only [List.length_drop, List.length_take]; rfl)) ?_; (with_reducible refine (footwaylaw09_alive.calls k1  t166 _ A150.out).mono ?_); rintro e w151 ⟨rfl, hb⟩; refine ⟨_, rfl, ?_⟩; have n0_ := Aside0.mk (Kd.Q_below (by (with_reducible repeat (first | apply Kd.Q_alloc | apply Kd.Q_drewN | apply Kd.Q_drew)); exact HO_7.out) hb); have n1_ := Aside0.mk (Kd.V_below (by (with_reducible repeat (first | apply Kd.V_alloc | apply Kd.V_drewN | apply Kd.V_drew)); exact HO_162001.out) hb); have n2_ := Aside0.mk (blk_below (g := gb161) (o := .cells #[.int .i64 x162000_1, u162001, .int .i64 x162002_1] 35 (0, 0)) (by (with_reducible repeat (first | refine blk_drewN ?_ _ | refine blk_drew ?_ | refine blk_alloc ?_ _)); exact BK161.out) hb); have n3_ := Aside0.mk (below_step (by repeat (first | (with_reducible first | exact HB.out | apply below_alloc | apply pw_below_drewN | apply below_drew1 | refine below_set ?_ GE161.out) | exact HB.out)) hb); clear HO_7; clear HO_162001; clear BK161; clear HB; have HO_7 := n0_; have HO_162001 := n1_; have BK161 := n2_; have HB := n3_; clear n0_ n1_ n2_ n3_; (try clear hb); (try clear hb2); (try clear hk); (try clear hi)))
              go_ret
              exact ⟨by first | rfl | (simp [errW_none, errW_some] <;> rfl) | (simp only [← hji5]; first | rfl | (simp [errW_none, errW_some] <;> rfl)) | (simp [*, errW_none, errW_some] <;> rfl), by repeat (first | (with_reducible first | exact HB.out | apply below_alloc | apply pw_below_drewN | apply below_drew1 | refine below_set ?_ GE161.out) | exact HB.out)⟩
      · rw [if_neg c7] at H
        exact absurd H (by simp)
    · rw [if_neg c6] at H
      exact absurd H (by simp)
  · rw [if_neg c4] at H
    have c4b0 : (t160 == 0) = false := beq_eq_false_iff_ne.mpr c4
    have c4b1 : (t160 != 0) = true := bne_iff_ne.mpr c4
    obtain rfl := Option.some.inj H
    go_enter Try.func6, Try.ntmps6
    go_wp2_with (first | ((with_reducible refine gate_callee (f := 21) rfl ?_); refine goesL_ (some 28) rfl rfl Try.func21 (by kernel_rfl) rfl #[.int .i64 (wrap64 (1 + (Int.tmod (wrap64 ((Int.tmod a0 8) + 8)) 8)))] rfl (by (try simp only [List.map_toArray, List.map_cons, List.map_nil]); first | done | rfl | (simp only [List.length_drop, List.length_take]; rfl)) ?_; (with_reducible refine (queue_New.calls (wrap64 (1 + (Int.tmod (wrap64 ((Int.tmod a0 8) + 8)) 8))) t155 t156 t159 t160 _ A3.out).mono ?_); rintro e w152 ⟨v157, rfl, ho0, hb⟩; refine ⟨_, rfl, ?_⟩; have n0_ := Aside0.mk (Kd.R_lower ho0 (below_size (by repeat (first | (with_reducible first | exact HB.out | apply below_alloc | apply pw_below_drewN | apply below_drew1) | exact HB.out)))); have n1_ := Aside0.mk (below_step (by repeat (first | (with_reducible first | exact HB.out | apply below_alloc | apply pw_below_drewN | apply below_drew1) | exact HB.out)) hb); clear HB; have HO158 := n0_; have HB := n1_; clear n0_ n1_; (try clear hb); (try clear hb2); (try clear hk); (try clear hi); (try clear ho0)) | ((with_reducible refine gate_dst (N := 5) rfl ?_); (try (refine gate_guard (by rfl) ?_; dsimp only)); refine box_event ?hg (N := 5) ?hd (cs := #[.int .i64 0, .slice none 0 0, .int .i64 0]) (t := 35) ?hr ?_; (case hd => rfl); (case hg => rfl); (case hr => first | (go_simp; done) | (go_simp; rfl)); intro gb161 hg w153 hbox hb; have n0_ := Aside0.mk (Kd.R_below (by (with_reducible repeat (first | apply Kd.R_alloc | apply Kd.R_drewN | apply Kd.R_drew)); exact HO158.out) hb); have n1_ := Aside0.mk (below_step (by repeat (first | (with_reducible first | exact HB.out | apply below_alloc | apply pw_below_drewN | apply below_drew1) | exact HB.out)) hb); have n2_ := Aside0.mk (hbox); have n3_ := Aside0.mk ((by rw [hg]; exact (below_size (by repeat (first | (with_reducible first | exact HB.out | apply below_alloc | apply pw_below_drewN | apply below_drew1) | exact HB.out))) : w.heap.size ≤ gb161)); have n4_ := Aside0.mk ((by rw [hg]; exact (below_size (by repeat (first | (with_reducible first | exact HB.out | apply below_alloc | apply pw_below_drewN | apply below_drew1) | exact HB.out))) : w.heap.size ≤ gb161)); clear HO158; clear HB; have HO158 := n0_; have HB := n1_; have BK161 := n2_; have GW161 := n3_; have GE161 := n4_; clear n0_ n1_ n2_ n3_ n4_; clear hb hbox hg; have hcz154_0 : w153.cell? ⟨gb161, 0, none⟩ = some (.int .i64 0) := (blk_cell BK161.out 0).trans rfl; have hcz154_1 : w153.cell? ⟨gb161, 1, none⟩ = some (.slice none 0 0) := (blk_cell BK161.out 1).trans rfl; have hcz154_2 : w153.cell? ⟨gb161, 2, none⟩ = some (.int .i64 0) := (blk_cell BK161.out 2).trans rfl; have hfz154_0 := blk_frozen BK161.out 0; have hfz154_1 := blk_frozen BK161.out 1; have hfz154_2 := blk_frozen BK161.out 2; obtain ⟨Ao155, co155, eo155⟩ := Kd.R_slice HO158.out; subst eo155))
    go_ret
    exact ⟨by first | rfl | (simp [errW_none, errW_some] <;> rfl) | (simp [*, errW_none, errW_some] <;> rfl), by repeat (first | (with_reducible first | exact HB.out | apply below_alloc | apply pw_below_drewN | apply below_drew1 | refine below_set ?_ GE161.out) | exact HB.out)⟩

/-- THE ONE PURE STATEMENT of footwaylaw09_QueueOrder: yours. -/
def footwaylaw09_QueueOrder.Pure : Prop := ∀ (a0 : Int) (l1 : List Int), (Lit.int .i64 a0).wf = true → l1.length ≤ maxLen → l1.length * 8 ≤ 140737488351232 → (∀ x ∈ l1, (Lit.int .i64 x).wf = true) → ∃ k, footwaylaw09_QueueOrder.f k a0 l1 = some true
theorem footwaylaw09_QueueOrder.walk (P : footwaylaw09_QueueOrder.Pure) (a0 : Int) (a1 : Option Addr) (len1 cap1 : Nat) (z1 : List Int) (w : World) (w0 : (Lit.int .i64 a0).wf = true) (w1 : (a1 = none ∧ len1 = 0 ∧ cap1 = 0 ∧ z1 = []) ∨ ∃ x, a1 = some x ∧ len1 ≤ cap1 ∧ cap1 ≤ maxLen ∧ z1.length = cap1 ∧ (∀ i, i < z1.length → w.cell? (x.add i) = some (.int .i64 (z1.getD i 0))) ∧ ∀ n ∈ z1, (Lit.int .i64 n).wf = true) (y1 : len1 * 8 ≤ 140737488351232) :
    Calls Try.prog 6 #[.int .i64 a0, .slice a1 len1 cap1] w fun e w' => e = .returned (.bool true) ∧ Below w.heap.size w w' := by
  obtain ⟨l1, rfl, hr1, hm1, hw1, hc1⟩ := ReadsInt.ofRowC w1
  obtain ⟨k, h⟩ := P a0 l1 w0 hm1 y1 hw1
  refine (footwaylaw09_QueueOrder.calls k a0 _ _ l1 true w (Kd.C_of_reads (d := (0 : Int)) (h1 := fun _ => rfl) hr1) hc1 h).mono ?_
  rintro e w' ⟨rfl, hd⟩
  exact ⟨rfl, hd⟩

end Go.Proofs.Ytnkkedkkjmehpaa.PQu
