/- HashOne: whatever the input, the law answers true (in plain numbers). -/
import Derived.Test.YtnikfjfcbpeieaaMK0
import Derived.Test.YtnikfjfcbpeieaaMT1
import Derived.Test.YtnikfjfcbpeieaaMK2
import Derived.Test.YtnikfjfcbpeieaaMV
section
namespace Go.Proofs.Ytnikfjfcbpeieaa.PHp
open Go.RowKit Go.Proofs.Ytnikfjfcbpeieaa.EHa Go.Proofs.YtnikfjfcbpeieaaW.PrintWords Go.Proofs.YtnikfjfcbpeieaaW.PrintLast Go.Proofs.YtnikfjfcbpeieaaW.PrintMore
attribute [local go_sem] max2_int min2_int max_two min_two max_three min_three max_four min_four   -- for this text's walks alone
set_option linter.unusedVariables false
set_option linter.unusedSimpArgs false
mutual
def footwaylaw07_HashOne.j0 : Nat → Int → Int → List Int → List Int → Int → Bool → Option (Bool)
 | 0, _, _, _, _, _, _ => none
 | k + 1, x7, x8, x10, x12, x13, x50 => if x50 = true then ((footwaylaw07_alive.f k).bind fun t255 => (if t255 = true then (if x13 = 1 then (some ((x12.length : Int) == 0)) else (some false)) else (some false))) else (if x13 = 0 then (if (x10.length : Int) = x7 then (if (x12.length : Int) = x7 then (if x8 < 0 then (footwaylaw07_HashOne.j1 k x8 x10 x12 true) else (if x8 ≥ x7 then (footwaylaw07_HashOne.j1 k x8 x10 x12 true) else ((footwaylaw07_alive.f k).bind fun t256 => (footwaylaw07_HashOne.j1 k x8 x10 x12 (!t256))))) else (footwaylaw07_HashOne.j1 k x8 x10 x12 true)) else (footwaylaw07_HashOne.j1 k x8 x10 x12 true)) else (footwaylaw07_HashOne.j1 k x8 x10 x12 true))
def footwaylaw07_HashOne.j1 : Nat → Int → List Int → List Int → Bool → Option (Bool)
 | 0, _, _, _, _ => none
 | k + 1, x8, x10, x12, x87 => if x87 = true then (some false) else (footwaylaw07_HashOne.l0 k x8 x10 x12 (x12.length : Int) 0)
def footwaylaw07_HashOne.l0 : Nat → Int → List Int → List Int → Int → Int → Option (Bool)
 | 0, _, _, _, _, _ => none
 | k + 1, x8, x10, x12, x89, x90 => if x90 < x89 then (if x90 = x8 then (if 0 ≤ x90 then (if x90 < (x12.length : Int) then (if x90 < (x10.length : Int) then (if (rd x12 x90) = (wrap64 ((rd x10 x90) + 1)) then (footwaylaw07_HashOne.l0 k x8 x10 x12 x89 (wrap64 (x90 + 1))) else (some false)) else (none)) else (none)) else (none)) else (if 0 ≤ x90 then (if x90 < (x12.length : Int) then (if x90 < (x10.length : Int) then (if (rd x12 x90) = (rd x10 x90) then (footwaylaw07_HashOne.l0 k x8 x10 x12 x89 (wrap64 (x90 + 1))) else (some false)) else (none)) else (none)) else (none))) else (some true)
end
def footwaylaw07_HashOne.f (k : Nat) (l0 : List Int) (a1 : Int) (a2 : Int) : Option (Bool) := if 0 ≤ (Int.tmod (wrap64 ((Int.tmod a2 5) + 5)) 5) then ((footwaylaw07_few.f l0).bind fun t233 => ((hash_Bucket.f k a1 (shl .i64 1 (Int.tmod (wrap64 ((Int.tmod a2 5) + 5)) 5))).bind fun bt236 => ((hash_Spread.f t233 (shl .i64 1 (Int.tmod (wrap64 ((Int.tmod a2 5) + 5)) 5))).bind fun bt238 => ((some (([] : List Int) : List Int)).bind fun y242 => (if y242.length + t233.length < 17592186044416 then ((some (y242 ++ t233 : List Int)).bind fun y245 => (if y245.length < 17592186044416 then ((hash_Spread.f (y245 ++ [a1]) (shl .i64 1 (Int.tmod (wrap64 ((Int.tmod a2 5) + 5)) 5))).bind fun bt251 => (if bt236.2 = 0 then (footwaylaw07_HashOne.j0 k (shl .i64 1 (Int.tmod (wrap64 ((Int.tmod a2 5) + 5)) 5)) bt236.1 bt238.1 bt251.1 bt251.2 (bt238.2 != 0)) else (footwaylaw07_HashOne.j0 k (shl .i64 1 (Int.tmod (wrap64 ((Int.tmod a2 5) + 5)) 5)) bt236.1 bt238.1 bt251.1 bt251.2 true))) else (none))) else (none)))))) else (none)
set_option maxHeartbeats 8000000 in
set_option maxRecDepth 100000 in
theorem footwaylaw07_HashOne.calls (k : Nat) (A0 : Option Addr) (c0 : Nat) (l0 : List Int) (a1 : Int) (a2 : Int) (r : Bool) (w : World) (hr0 : Kd.C (Kd.int .i64) w A0 l0.length l0) (hc0 : l0.length ≤ c0) (h : footwaylaw07_HashOne.f k l0 a1 a2 = some r) :
  Calls Th.prog 13 #[.slice A0 l0.length c0, .int .i64 a1, .int .i64 a2] w fun e w' => e = .returned (.bool r) ∧ Below w.heap.size w w' := by
 have HR0 := Aside0.mk hr0
 have HC0 := Aside0.mk hc0
 clear hr0 hc0
 have HB := Aside0.mk (Below.refl w.heap.size w)
 have H : (if 0 ≤ (Int.tmod (wrap64 ((Int.tmod a2 5) + 5)) 5) then ((footwaylaw07_few.f l0).bind fun t233 => ((hash_Bucket.f k a1 (shl .i64 1 (Int.tmod (wrap64 ((Int.tmod a2 5) + 5)) 5))).bind fun bt236 => ((hash_Spread.f t233 (shl .i64 1 (Int.tmod (wrap64 ((Int.tmod a2 5) + 5)) 5))).bind fun bt238 => ((some (([] : List Int) : List Int)).bind fun y242 => (if y242.length + t233.length < 17592186044416 then ((some (y242 ++ t233 : List Int)).bind fun y245 => (if y245.length < 17592186044416 then ((hash_Spread.f (y245 ++ [a1]) (shl .i64 1 (Int.tmod (wrap64 ((Int.tmod a2 5) + 5)) 5))).bind fun bt251 => (if bt236.2 = 0 then (footwaylaw07_HashOne.j0 k (shl .i64 1 (Int.tmod (wrap64 ((Int.tmod a2 5) + 5)) 5)) bt236.1 bt238.1 bt251.1 bt251.2 (bt238.2 != 0)) else (footwaylaw07_HashOne.j0 k (shl .i64 1 (Int.tmod (wrap64 ((Int.tmod a2 5) + 5)) 5)) bt236.1 bt238.1 bt251.1 bt251.2 true))) else (none))) else (none)))))) else (none)) = some r := h
 clear h
 obtain ⟨ji4, hji4⟩ : ∃ j_ : Int, (Int.tmod (wrap64 ((Int.tmod a2 5) + 5)) 5) = j_ := ⟨_, rfl⟩
 replace H : (if 0 ≤ (ji4) then ((footwaylaw07_few.f l0).bind fun t233 => ((hash_Bucket.f k a1 (shl .i64 1 (ji4))).bind fun bt236 => ((hash_Spread.f t233 (shl .i64 1 (ji4))).bind fun bt238 => ((some (([] : List Int) : List Int)).bind fun y242 => (if y242.length + t233.length < 17592186044416 then ((some (y242 ++ t233 : List Int)).bind fun y245 => (if y245.length < 17592186044416 then ((hash_Spread.f (y245 ++ [a1]) (shl .i64 1 (ji4))).bind fun bt251 => (if bt236.2 = 0 then (footwaylaw07_HashOne.j0 k (shl .i64 1 (ji4)) bt236.1 bt238.1 bt251.1 bt251.2 (bt238.2 != 0)) else (footwaylaw07_HashOne.j0 k (shl .i64 1 (ji4)) bt236.1 bt238.1 bt251.1 bt251.2 true))) else (none))) else (none)))))) else (none)) = some r := by first | (rw [hji4] at H; exact H) | (simp only [hji4] at H ⊢; exact H)
 by_cases c5 : 0 ≤ (ji4)
 ·rw [if_pos c5] at H
  have c5b0 := eq_true c5
  have c5b1 : decide (0 ≤ (ji4)) = true := decide_eq_true c5
  clear c5
  obtain ⟨ji6, hji6⟩ : ∃ j_ : Int, (shl .i64 1 (ji4)) = j_ := ⟨_, rfl⟩
  replace H : ((footwaylaw07_few.f l0).bind fun t233 => ((hash_Bucket.f k a1 (ji6)).bind fun bt236 => ((hash_Spread.f t233 (ji6)).bind fun bt238 => ((some (([] : List Int) : List Int)).bind fun y242 => (if y242.length + t233.length < 17592186044416 then ((some (y242 ++ t233 : List Int)).bind fun y245 => (if y245.length < 17592186044416 then ((hash_Spread.f (y245 ++ [a1]) (ji6)).bind fun bt251 => (if bt236.2 = 0 then (footwaylaw07_HashOne.j0 k ji6 bt236.1 bt238.1 bt251.1 bt251.2 (bt238.2 != 0)) else (footwaylaw07_HashOne.j0 k ji6 bt236.1 bt238.1 bt251.1 bt251.2 true))) else (none))) else (none)))))) = some r := by first | (rw [hji6] at H; exact H) | (simp only [hji6] at H ⊢; exact H)
  have hji6_ : (IntKind.i64.wrap (1 * 2 ^ min (ji4).toNat 64)) = ji6 := hji6
  have hji6z : (ji4) ≤ 64 → (IntKind.i64.wrap (1 * 2 ^ (ji4).toNat)) = ji6 := shl_small hji6
  have hji6u : (IntKind.i64.wrap (2 ^ min (ji4).toNat 64)) = ji6 := by have h_ := hji6_; rw [Int.one_mul] at h_; exact h_
  have hji6v : (ji4) ≤ 64 → (IntKind.i64.wrap (2 ^ (ji4).toNat)) = ji6 := fun hle_ => by have h_ := hji6z hle_; rw [Int.one_mul] at h_; exact h_
  have hji6y : (wrap64 (1 * 2 ^ min (ji4).toNat 64)) = ji6 := (i64_w _).symm.trans hji6_
  have hji6x : (ji4) ≤ 64 → (wrap64 (1 * 2 ^ (ji4).toNat)) = ji6 := fun h_ => (i64_w _).symm.trans (hji6z h_)
  replace H := Option.bind_eq_some_iff.mp H
  obtain ⟨t233, A70, H⟩ := H
  replace H : ((hash_Bucket.f k a1 (ji6)).bind fun bt236 => ((hash_Spread.f t233 (ji6)).bind fun bt238 => ((some (([] : List Int) : List Int)).bind fun y242 => (if y242.length + t233.length < 17592186044416 then ((some (y242 ++ t233 : List Int)).bind fun y245 => (if y245.length < 17592186044416 then ((hash_Spread.f (y245 ++ [a1]) (ji6)).bind fun bt251 => (if bt236.2 = 0 then (footwaylaw07_HashOne.j0 k ji6 bt236.1 bt238.1 bt251.1 bt251.2 (bt238.2 != 0)) else (footwaylaw07_HashOne.j0 k ji6 bt236.1 bt238.1 bt251.1 bt251.2 true))) else (none))) else (none))))) = some r := H
  have A7 := Aside0.mk A70
  clear A70
  replace H := Option.bind_eq_some_iff.mp H
  obtain ⟨⟨t236, t237⟩, A80, H⟩ := H
  replace H : ((hash_Spread.f t233 (ji6)).bind fun bt238 => ((some (([] : List Int) : List Int)).bind fun y242 => (if y242.length + t233.length < 17592186044416 then ((some (y242 ++ t233 : List Int)).bind fun y245 => (if y245.length < 17592186044416 then ((hash_Spread.f (y245 ++ [a1]) (ji6)).bind fun bt251 => (if t237 = 0 then (footwaylaw07_HashOne.j0 k ji6 t236 bt238.1 bt251.1 bt251.2 (bt238.2 != 0)) else (footwaylaw07_HashOne.j0 k ji6 t236 bt238.1 bt251.1 bt251.2 true))) else (none))) else (none)))) = some r := H
  have A8 := Aside0.mk A80
  clear A80
  replace H := Option.bind_eq_some_iff.mp H
  obtain ⟨⟨t238, t239⟩, A90, H⟩ := H
  replace H : ((some (([] : List Int) : List Int)).bind fun y242 => (if y242.length + t233.length < 17592186044416 then ((some (y242 ++ t233 : List Int)).bind fun y245 => (if y245.length < 17592186044416 then ((hash_Spread.f (y245 ++ [a1]) (ji6)).bind fun bt251 => (if t237 = 0 then (footwaylaw07_HashOne.j0 k ji6 t236 t238 bt251.1 bt251.2 (t239 != 0)) else (footwaylaw07_HashOne.j0 k ji6 t236 t238 bt251.1 bt251.2 true))) else (none))) else (none))) = some r := H
  have A9 := Aside0.mk A90
  clear A90
  obtain ⟨y242, hy242⟩ : ∃ y_ : List Int, y_ = (([] : List Int)) := ⟨_, rfl⟩
  replace H : (if y242.length + t233.length < 17592186044416 then ((some (y242 ++ t233 : List Int)).bind fun y245 => (if y245.length < 17592186044416 then ((hash_Spread.f (y245 ++ [a1]) (ji6)).bind fun bt251 => (if t237 = 0 then (footwaylaw07_HashOne.j0 k ji6 t236 t238 bt251.1 bt251.2 (t239 != 0)) else (footwaylaw07_HashOne.j0 k ji6 t236 t238 bt251.1 bt251.2 true))) else (none))) else (none)) = some r := by first | (rw [hy242]; with_reducible exact H) | (have H2_ := (Option.bind_some _ _).symm.trans H; rw [hy242]; with_reducible exact H2_) | (have H2_ := (Option.bind_some _ _).symm.trans H; with_reducible exact H2_) | with_reducible exact H | (rw [hy242]; exact H) | exact H
  have Ny242 := Aside0.mk hy242
  clear hy242
  by_cases c10 : y242.length + t233.length < 17592186044416
  ·rw [if_pos c10] at H
   have LMc10 := Aside0.mk c10
   clear c10
   obtain ⟨y245, hy245⟩ : ∃ y_ : List Int, y_ = (y242 ++ t233) := ⟨_, rfl⟩
   replace H : (if y245.length < 17592186044416 then ((hash_Spread.f (y245 ++ [a1]) (ji6)).bind fun bt251 => (if t237 = 0 then (footwaylaw07_HashOne.j0 k ji6 t236 t238 bt251.1 bt251.2 (t239 != 0)) else (footwaylaw07_HashOne.j0 k ji6 t236 t238 bt251.1 bt251.2 true))) else (none)) = some r := by first | (rw [hy245]; with_reducible exact H) | (have H2_ := (Option.bind_some _ _).symm.trans H; rw [hy245]; with_reducible exact H2_) | (have H2_ := (Option.bind_some _ _).symm.trans H; with_reducible exact H2_) | with_reducible exact H | (rw [hy245]; exact H) | exact H
   have Ny245 := Aside0.mk hy245
   clear hy245
   by_cases c11 : y245.length < 17592186044416
   ·rw [if_pos c11] at H
    have LMc11 := Aside0.mk c11
    clear c11
    obtain ⟨y248, hy248⟩ : ∃ y_ : List Int, y_ = (y245 ++ [a1]) := ⟨_, rfl⟩
    replace H : ((hash_Spread.f y248 (ji6)).bind fun bt251 => (if t237 = 0 then (footwaylaw07_HashOne.j0 k ji6 t236 t238 bt251.1 bt251.2 (t239 != 0)) else (footwaylaw07_HashOne.j0 k ji6 t236 t238 bt251.1 bt251.2 true))) = some r := by first | (rw [hy248]; with_reducible exact H) | (have H2_ := (Option.bind_some _ _).symm.trans H; rw [hy248]; with_reducible exact H2_) | (have H2_ := (Option.bind_some _ _).symm.trans H; with_reducible exact H2_) | with_reducible exact H | (rw [hy248]; exact H) | exact H
    have Ny248 := Aside0.mk hy248
    clear hy248
    replace H := Option.bind_eq_some_iff.mp H
    obtain ⟨⟨t251, t252⟩, A120, H⟩ := H
    replace H : (if t237 = 0 then (footwaylaw07_HashOne.j0 k ji6 t236 t238 t251 t252 (t239 != 0)) else (footwaylaw07_HashOne.j0 k ji6 t236 t238 t251 t252 true)) = some r := H
    have A12 := Aside0.mk A120
    clear A120
    have HC13 := Aside0.mk H
    clear H
    go_enter Th.func13, Try.ntmps13
    go_upto_region 6 with (first | (go_at_call 42; (with_reducible refine (footwaylaw07_few.calls (fun k_ => k_ < w.heap.size) _ _ l0 t233 _ ?side1 A7.out).mono ?_); (case side1 => exact Kd.V_mk HC0.out (Kd.F_below (Kd.C_F (Kd.heap_int .i64) HR0.out) (by repeat (first | (with_reducible first | exact HB.out | apply below_alloc | apply pw_below_drewN | apply below_drew1) | exact HB.out)))); rintro e w14 ⟨v234, rfl, ho0, hb⟩; have n0_ := Aside0.mk (Kd.V_lower (Kd.V_mono (ok' := fun k_ => True) ho0 (fun k_ hk_ => trivial)) (below_size (by repeat (first | (with_reducible first | exact HB.out | apply below_alloc | apply pw_below_drewN | apply below_drew1) | exact HB.out)))); have n1_ := Aside0.mk (below_step (by repeat (first | (with_reducible first | exact HB.out | apply below_alloc | apply pw_below_drewN | apply below_drew1) | exact HB.out)) hb); clear HB; have HO235 := n0_; have HB := n1_; clear n0_ n1_; (try clear hb); (try clear hb2); (try clear hk); (try clear hi); (try clear ho0)) | (go_at_call 44; (with_reducible refine (hash_Bucket.calls k a1 ji6 t236 t237 _ A8.out).mono ?_); rintro e w15 ⟨rfl, hb⟩; have n0_ := Aside0.mk (Kd.V_below (by (with_reducible repeat (first | apply Kd.V_alloc | apply Kd.V_drewN | apply Kd.V_drew)); exact HO235.out) hb); have n1_ := Aside0.mk (below_step (by repeat (first | (with_reducible first | exact HB.out | apply below_alloc | apply pw_below_drewN | apply below_drew1) | exact HB.out)) hb); clear HO235; clear HB; have HO235 := n0_; have HB := n1_; clear n0_ n1_; (try clear hb); (try clear hb2); (try clear hk); (try clear hi); obtain ⟨Ao16, co16, eo16⟩ := Kd.V_slice HO235.out; subst eo16) | (go_at_call 45; (with_reducible refine (hash_Spread.calls _ _ t233 ji6 t238 t239 _ ?side1 ?side2 A9.out).mono ?_); (case side1 => repeat (first | exact (Kd.V_reads' HO235.out).2.2 | (with_reducible refine Kd.C_alloc ?_ _) | (with_reducible refine Kd.C_drewN ?_ _) | (with_reducible refine Kd.C_drew ?_))); (case side2 => exact (Kd.V_reads' HO235.out).2.1); rintro e w17 ⟨v240, rfl, ho0, hb⟩; have n0_ := Aside0.mk (Kd.V_elder' (by (with_reducible repeat (first | apply Kd.V_alloc | apply Kd.V_drewN | apply Kd.V_drew)); exact HO235.out) (Kd.R_base ho0) hb); have n1_ := Aside0.mk (Kd.R_lower ho0 (below_size (by repeat (first | (with_reducible first | exact HB.out | apply below_alloc | apply pw_below_drewN | apply below_drew1) | exact HB.out)))); have n2_ := Aside0.mk (below_step (by repeat (first | (with_reducible first | exact HB.out | apply below_alloc | apply pw_below_drewN | apply below_drew1) | exact HB.out)) hb); clear HO235; clear HB; have HO235 := n0_; have HO241 := n1_; have HB := n2_; clear n0_ n1_ n2_; (try clear hb); (try clear hb2); (try clear hk); (try clear hi); (try clear ho0)) | ((with_reducible refine gate_dst (N := 35) rfl ?_); (try (refine gate_guard (by rfl) ?_; dsimp only)); refine Kd.R_lit (Kd.int .i64) _ 3 ?hg (N := 35) ?hd (xs := ([] : List Int)) (inner := []) (ok := fun _ => True) (okp := fun _ => True) ?hr ?hp (fun _ hk => hk) trivial (Below.refl _ _) (Nat.le_refl _) (by simp) ?_; (case hd => rfl); (case hg => rfl); (case hr => first | (go_simp; done) | (go_simp; rfl)); (case hp => exact (Reps.none _ _)); intro v243 w18 ho19 hb hg_ hnew_; clear hg_ hnew_; (first | rw [← Ny242.out] at ho19 | (simp only [Int.reduceToNat] at ho19; rw [← Ny242.out] at ho19)); have n0_ := Aside0.mk (Kd.V_elder' (by (with_reducible repeat (first | apply Kd.V_alloc | apply Kd.V_drewN | apply Kd.V_drew)); exact HO235.out) (Kd.R_base ho19) hb); have n1_ := Aside0.mk (Kd.R_elder' (by (with_reducible repeat (first | apply Kd.R_alloc | apply Kd.R_drewN | apply Kd.R_drew)); exact HO241.out) (Kd.R_base ho19) hb); have n2_ := Aside0.mk (Kd.R_lower (Kd.R_new' ho19 (Kd.R_lt (by (with_reducible repeat (first | apply Kd.R_alloc | apply Kd.R_drewN | apply Kd.R_drew)); exact HO241.out))) (below_size (by repeat (first | (with_reducible first | exact HB.out | apply below_alloc | apply pw_below_drewN | apply below_drew1) | exact HB.out)))); have n3_ := Aside0.mk (below_step (by repeat (first | (with_reducible first | exact HB.out | apply below_alloc | apply pw_below_drewN | apply below_drew1) | exact HB.out)) hb); clear HO235; clear HO241; clear HB; have HO235 := n0_; have HO241 := n1_; have HO244 := n2_; have HB := n3_; clear n0_ n1_ n2_ n3_; clear hb ho19) | ((with_reducible refine gate_builtin (b := .append) (xs := #[.tmp 35, .tmp 36]) rfl ?_); (try (refine gate_guard (by rfl) ?_; dsimp only)); at_builtin; refine Kd.R_append_rows (Kd.int .i64) (w0 := w) w.heap.size rfl (.tmp 35) (.tmp 36) 57 3 (.int .i64 0) 8 rfl Th.underlying57 info3 rfl (by decide) (by omega) v243 y242 t233 _ _ _ (fun k_ => some k_ ≠ (v240 : Value).ownBlock) (fun _ => False) rfl rfl ?aO ?aR (fun _ _ h => h) (fun _ h => h.elim) ?aF ?aB ?aS ?aL ?_; (case aR => repeat (first | exact (Kd.V_reads' HO235.out).2.2 | (with_reducible refine Kd.C_alloc ?_ _) | (with_reducible refine Kd.C_drewN ?_ _) | (with_reducible refine Kd.C_drew ?_))); (case aB => exact (by repeat (first | (with_reducible first | exact HB.out | apply below_alloc | apply pw_below_drewN | apply below_drew1) | exact HB.out))); (case aF => exact (fun k_ hk => Kd.fresh' (Kd.R_lt (by (with_reducible repeat (first | apply Kd.R_alloc | apply Kd.R_drewN | apply Kd.R_drew)); exact HO241.out)) k_ hk)); (case aO => exact (by (with_reducible repeat (first | apply Kd.R_alloc | apply Kd.R_drewN | apply Kd.R_drew)); exact Kd.R_mono HO244.out (fun _ hk => hk.2))); (case aS => exact (below_size (by repeat (first | (with_reducible first | exact HB.out | apply below_alloc | apply pw_below_drewN | apply below_drew1) | exact HB.out)))); (case aL => have := LMc10.out; omega); intro v246 w20 ho hb hg hat; rw [← Ny245.out] at ho; have n0_ := Aside0.mk (Kd.V_afterv (ok := (fun k_ => some k_ ≠ (v240 : Value).ownBlock)) (by (with_reducible repeat (first | apply Kd.V_alloc | apply Kd.V_drewN | apply Kd.V_drew)); exact Kd.V_mono HO235.out (fun _ hk => ⟨hk.1.2, hk.2⟩)) hg hat); have n1_ := Aside0.mk (Kd.R_after (ok := (fun _ => True)) (by (with_reducible repeat (first | apply Kd.R_alloc | apply Kd.R_drewN | apply Kd.R_drew)); exact HO241.out) hg hat); have n2_ := Aside0.mk (hb); have n3_ := Aside0.mk (ho); clear HO235; clear HO241; clear HB; clear HO244; have HO235 := n0_; have HO241 := n1_; have HB := n2_; have HO247 := n3_; clear n0_ n1_ n2_ n3_; clear ho hb hg hat) | ((with_reducible refine gate_builtin (b := .append) (xs := #[.tmp 37, .tmp 39]) rfl ?_); (try (refine gate_guard (by rfl) ?_; dsimp only)); at_builtin; refine Kd.R_append (Kd.int .i64) (w0 := w) w.heap.size rfl (.tmp 37) (.tmp 39) 57 3 (.int .i64 0) 8 rfl Th.underlying57 info3 rfl (by decide) (by omega) v246 y245 a1 [.int .i64 a1] (fun k_ => some k_ ≠ (v240 : Value).ownBlock) (fun _ => False) rfl rfl ?aP (fun _ hk => hk.elim) ?aF ?aO ?aB ?aS ?aL ?_; (case aP => exact rfl); (case aB => exact (by repeat (first | (with_reducible first | exact HB.out | apply below_alloc | apply pw_below_drewN | apply below_drew1) | exact HB.out))); (case aF => exact (fun k_ hk => Kd.fresh' (Kd.R_lt (by (with_reducible repeat (first | apply Kd.R_alloc | apply Kd.R_drewN | apply Kd.R_drew)); exact HO241.out)) k_ hk)); (case aO => exact (by (with_reducible repeat (first | apply Kd.R_alloc | apply Kd.R_drewN | apply Kd.R_drew)); exact HO247.out)); (case aS => exact (below_size (by repeat (first | (with_reducible first | exact HB.out | apply below_alloc | apply pw_below_drewN | apply below_drew1) | exact HB.out)))); (case aL => have := LMc11.out; omega); intro v249 w21 ho hb hg hat; rw [← Ny248.out] at ho; have n0_ := Aside0.mk (Kd.V_afterv (ok := (fun k_ => some k_ ≠ (v240 : Value).ownBlock)) (by (with_reducible repeat (first | apply Kd.V_alloc | apply Kd.V_drewN | apply Kd.V_drew)); exact HO235.out) hg hat); have n1_ := Aside0.mk (Kd.R_after (ok := (fun _ => True)) (by (with_reducible repeat (first | apply Kd.R_alloc | apply Kd.R_drewN | apply Kd.R_drew)); exact HO241.out) hg hat); have n2_ := Aside0.mk (hb); have n3_ := Aside0.mk (ho); clear HO235; clear HO241; clear HB; clear HO247; have HO235 := n0_; have HO241 := n1_; have HB := n2_; have HO250 := n3_; clear n0_ n1_ n2_ n3_; clear ho hb hg hat; obtain ⟨Ao22, co22, eo22⟩ := Kd.R_slice HO250.out; subst eo22) | (go_at_call 45; (with_reducible refine (hash_Spread.calls _ _ y248 ji6 t251 t252 _ ?side1 ?side2 A12.out).mono ?_); (case side1 => repeat (first | exact (Kd.R_reads' HO250.out).2.2 | (with_reducible refine Kd.C_alloc ?_ _) | (with_reducible refine Kd.C_drewN ?_ _) | (with_reducible refine Kd.C_drew ?_))); (case side2 => exact (Kd.R_reads' HO250.out).2.1); rintro e w23 ⟨v253, rfl, ho0, hb⟩; have n0_ := Aside0.mk (Kd.V_elder' (by (with_reducible repeat (first | apply Kd.V_alloc | apply Kd.V_drewN | apply Kd.V_drew)); exact HO235.out) (Kd.R_base ho0) hb); have n1_ := Aside0.mk (Kd.R_elder' (by (with_reducible repeat (first | apply Kd.R_alloc | apply Kd.R_drewN | apply Kd.R_drew)); exact HO241.out) (Kd.R_base ho0) hb); have n2_ := Aside0.mk (Kd.R_elder' (by (with_reducible repeat (first | apply Kd.R_alloc | apply Kd.R_drewN | apply Kd.R_drew)); exact HO250.out) (Kd.R_base ho0) hb); have n3_ := Aside0.mk (Kd.R_lower (Kd.R_new' (Kd.R_new' ho0 (Kd.R_lt (by (with_reducible repeat (first | apply Kd.R_alloc | apply Kd.R_drewN | apply Kd.R_drew)); exact HO241.out))) (Kd.R_lt (by (with_reducible repeat (first | apply Kd.R_alloc | apply Kd.R_drewN | apply Kd.R_drew)); exact HO250.out))) (below_size (by repeat (first | (with_reducible first | exact HB.out | apply below_alloc | apply pw_below_drewN | apply below_drew1) | exact HB.out)))); have n4_ := Aside0.mk (below_step (by repeat (first | (with_reducible first | exact HB.out | apply below_alloc | apply pw_below_drewN | apply below_drew1) | exact HB.out)) hb); clear HO235; clear HO241; clear HO250; clear HB; have HO235 := n0_; have HO241 := n1_; have HO250 := n2_; have HO254 := n3_; have HB := n4_; clear n0_ n1_ n2_ n3_ n4_; (try clear hb); (try clear hb2); (try clear hk); (try clear hi); (try clear ho0)))
    repeat (go_quiet (first | (go_at_call 42; (with_reducible refine (footwaylaw07_few.calls (fun k_ => k_ < w.heap.size) _ _ l0 t233 _ ?side1 A7.out).mono ?_); (case side1 => exact Kd.V_mk HC0.out (Kd.F_below (Kd.C_F (Kd.heap_int .i64) HR0.out) (by repeat (first | (with_reducible first | exact HB.out | apply below_alloc | apply pw_below_drewN | apply below_drew1) | exact HB.out)))); rintro e w14 ⟨v234, rfl, ho0, hb⟩; have n0_ := Aside0.mk (Kd.V_lower (Kd.V_mono (ok' := fun k_ => True) ho0 (fun k_ hk_ => trivial)) (below_size (by repeat (first | (with_reducible first | exact HB.out | apply below_alloc | apply pw_below_drewN | apply below_drew1) | exact HB.out)))); have n1_ := Aside0.mk (below_step (by repeat (first | (with_reducible first | exact HB.out | apply below_alloc | apply pw_below_drewN | apply below_drew1) | exact HB.out)) hb); clear HB; have HO235 := n0_; have HB := n1_; clear n0_ n1_; (try clear hb); (try clear hb2); (try clear hk); (try clear hi); (try clear ho0)) | (go_at_call 44; (with_reducible refine (hash_Bucket.calls k a1 ji6 t236 t237 _ A8.out).mono ?_); rintro e w15 ⟨rfl, hb⟩; have n0_ := Aside0.mk (Kd.V_below (by (with_reducible repeat (first | apply Kd.V_alloc | apply Kd.V_drewN | apply Kd.V_drew)); exact HO235.out) hb); have n1_ := Aside0.mk (below_step (by repeat (first | (with_reducible first | exact HB.out | apply below_alloc | apply pw_below_drewN | apply below_drew1) | exact HB.out)) hb); clear HO235; clear HB; have HO235 := n0_; have HB := n1_; clear n0_ n1_; (try clear hb); (try clear hb2); (try clear hk); (try clear hi); obtain ⟨Ao16, co16, eo16⟩ := Kd.V_slice HO235.out; subst eo16) | (go_at_call 45; (with_reducible refine (hash_Spread.calls _ _ t233 ji6 t238 t239 _ ?side1 ?side2 A9.out).mono ?_); (case side1 => repeat (first | exact (Kd.V_reads' HO235.out).2.2 | (with_reducible refine Kd.C_alloc ?_ _) | (with_reducible refine Kd.C_drewN ?_ _) | (with_reducible refine Kd.C_drew ?_))); (case side2 => exact (Kd.V_reads' HO235.out).2.1); rintro e w17 ⟨v240, rfl, ho0, hb⟩; have n0_ := Aside0.mk (Kd.V_elder' (by (with_reducible repeat (first | apply Kd.V_alloc | apply Kd.V_drewN | apply Kd.V_drew)); exact HO235.out) (Kd.R_base ho0) hb); have n1_ := Aside0.mk (Kd.R_lower ho0 (below_size (by repeat (first | (with_reducible first | exact HB.out | apply below_alloc | apply pw_below_drewN | apply below_drew1) | exact HB.out)))); have n2_ := Aside0.mk (below_step (by repeat (first | (with_reducible first | exact HB.out | apply below_alloc | apply pw_below_drewN | apply below_drew1) | exact HB.out)) hb); clear HO235; clear HB; have HO235 := n0_; have HO241 := n1_; have HB := n2_; clear n0_ n1_ n2_; (try clear hb); (try clear hb2); (try clear hk); (try clear hi); (try clear ho0)) | ((with_reducible refine gate_dst (N := 35) rfl ?_); (try (refine gate_guard (by rfl) ?_; dsimp only)); refine Kd.R_lit (Kd.int .i64) _ 3 ?hg (N := 35) ?hd (xs := ([] : List Int)) (inner := []) (ok := fun _ => True) (okp := fun _ => True) ?hr ?hp (fun _ hk => hk) trivial (Below.refl _ _) (Nat.le_refl _) (by simp) ?_; (case hd => rfl); (case hg => rfl); (case hr => first | (go_simp; done) | (go_simp; rfl)); (case hp => exact (Reps.none _ _)); intro v243 w18 ho19 hb hg_ hnew_; clear hg_ hnew_; (first | rw [← Ny242.out] at ho19 | (simp only [Int.reduceToNat] at ho19; rw [← Ny242.out] at ho19)); have n0_ := Aside0.mk (Kd.V_elder' (by (with_reducible repeat (first | apply Kd.V_alloc | apply Kd.V_drewN | apply Kd.V_drew)); exact HO235.out) (Kd.R_base ho19) hb); have n1_ := Aside0.mk (Kd.R_elder' (by (with_reducible repeat (first | apply Kd.R_alloc | apply Kd.R_drewN | apply Kd.R_drew)); exact HO241.out) (Kd.R_base ho19) hb); have n2_ := Aside0.mk (Kd.R_lower (Kd.R_new' ho19 (Kd.R_lt (by (with_reducible repeat (first | apply Kd.R_alloc | apply Kd.R_drewN | apply Kd.R_drew)); exact HO241.out))) (below_size (by repeat (first | (with_reducible first | exact HB.out | apply below_alloc | apply pw_below_drewN | apply below_drew1) | exact HB.out)))); have n3_ := Aside0.mk (below_step (by repeat (first | (with_reducible first | exact HB.out | apply below_alloc | apply pw_below_drewN | apply below_drew1) | exact HB.out)) hb); clear HO235; clear HO241; clear HB; have HO235 := n0_; have HO241 := n1_; have HO244 := n2_; have HB := n3_; clear n0_ n1_ n2_ n3_; clear hb ho19) | ((with_reducible refine gate_builtin (b := .append) (xs := #[.tmp 35, .tmp 36]) rfl ?_); (try (refine gate_guard (by rfl) ?_; dsimp only)); at_builtin; refine Kd.R_append_rows (Kd.int .i64) (w0 := w) w.heap.size rfl (.tmp 35) (.tmp 36) 57 3 (.int .i64 0) 8 rfl Th.underlying57 info3 rfl (by decide) (by omega) v243 y242 t233 _ _ _ (fun k_ => some k_ ≠ (v240 : Value).ownBlock) (fun _ => False) rfl rfl ?aO ?aR (fun _ _ h => h) (fun _ h => h.elim) ?aF ?aB ?aS ?aL ?_; (case aR => repeat (first | exact (Kd.V_reads' HO235.out).2.2 | (with_reducible refine Kd.C_alloc ?_ _) | (with_reducible refine Kd.C_drewN ?_ _) | (with_reducible refine Kd.C_drew ?_))); (case aB => exact (by repeat (first | (with_reducible first | exact HB.out | apply below_alloc | apply pw_below_drewN | apply below_drew1) | exact HB.out))); (case aF => exact (fun k_ hk => Kd.fresh' (Kd.R_lt (by (with_reducible repeat (first | apply Kd.R_alloc | apply Kd.R_drewN | apply Kd.R_drew)); exact HO241.out)) k_ hk)); (case aO => exact (by (with_reducible repeat (first | apply Kd.R_alloc | apply Kd.R_drewN | apply Kd.R_drew)); exact Kd.R_mono HO244.out (fun _ hk => hk.2))); (case aS => exact (below_size (by repeat (first | (with_reducible first | exact HB.out | apply below_alloc | apply pw_below_drewN | apply below_drew1) | exact HB.out)))); (case aL => have := LMc10.out; omega); intro v246 w20 ho hb hg hat; rw [← Ny245.out] at ho; have n0_ := Aside0.mk (Kd.V_afterv (ok := (fun k_ => some k_ ≠ (v240 : Value).ownBlock)) (by (with_reducible repeat (first | apply Kd.V_alloc | apply Kd.V_drewN | apply Kd.V_drew)); exact Kd.V_mono HO235.out (fun _ hk => ⟨hk.1.2, hk.2⟩)) hg hat); have n1_ := Aside0.mk (Kd.R_after (ok := (fun _ => True)) (by (with_reducible repeat (first | apply Kd.R_alloc | apply Kd.R_drewN | apply Kd.R_drew)); exact HO241.out) hg hat); have n2_ := Aside0.mk (hb); have n3_ := Aside0.mk (ho); clear HO235; clear HO241; clear HB; clear HO244; have HO235 := n0_; have HO241 := n1_; have HB := n2_; have HO247 := n3_; clear n0_ n1_ n2_ n3_; clear ho hb hg hat) | ((with_reducible refine gate_builtin (b := .append) (xs := #[.tmp 37, .tmp 39]) rfl ?_); (try (refine gate_guard (by rfl) ?_; dsimp only)); at_builtin; refine Kd.R_append (Kd.int .i64) (w0 := w) w.heap.size rfl (.tmp 37) (.tmp 39) 57 3 (.int .i64 0) 8 rfl Th.underlying57 info3 rfl (by decide) (by omega) v246 y245 a1 [.int .i64 a1] (fun k_ => some k_ ≠ (v240 : Value).ownBlock) (fun _ => False) rfl rfl ?aP (fun _ hk => hk.elim) ?aF ?aO ?aB ?aS ?aL ?_; (case aP => exact rfl); (case aB => exact (by repeat (first | (with_reducible first | exact HB.out | apply below_alloc | apply pw_below_drewN | apply below_drew1) | exact HB.out))); (case aF => exact (fun k_ hk => Kd.fresh' (Kd.R_lt (by (with_reducible repeat (first | apply Kd.R_alloc | apply Kd.R_drewN | apply Kd.R_drew)); exact HO241.out)) k_ hk)); (case aO => exact (by (with_reducible repeat (first | apply Kd.R_alloc | apply Kd.R_drewN | apply Kd.R_drew)); exact HO247.out)); (case aS => exact (below_size (by repeat (first | (with_reducible first | exact HB.out | apply below_alloc | apply pw_below_drewN | apply below_drew1) | exact HB.out)))); (case aL => have := LMc11.out; omega); intro v249 w21 ho hb hg hat; rw [← Ny248.out] at ho; have n0_ := Aside0.mk (Kd.V_afterv (ok := (fun k_ => some k_ ≠ (v240 : Value).ownBlock)) (by (with_reducible repeat (first | apply Kd.V_alloc | apply Kd.V_drewN | apply Kd.V_drew)); exact HO235.out) hg hat); have n1_ := Aside0.mk (Kd.R_after (ok := (fun _ => True)) (by (with_reducible repeat (first | apply Kd.R_alloc | apply Kd.R_drewN | apply Kd.R_drew)); exact HO241.out) hg hat); have n2_ := Aside0.mk (hb); have n3_ := Aside0.mk (ho); clear HO235; clear HO241; clear HB; clear HO247; have HO235 := n0_; have HO241 := n1_; have HB := n2_; have HO250 := n3_; clear n0_ n1_ n2_ n3_; clear ho hb hg hat; obtain ⟨Ao22, co22, eo22⟩ := Kd.R_slice HO250.out; subst eo22) | (go_at_call 45; (with_reducible refine (hash_Spread.calls _ _ y248 ji6 t251 t252 _ ?side1 ?side2 A12.out).mono ?_); (case side1 => repeat (first | exact (Kd.R_reads' HO250.out).2.2 | (with_reducible refine Kd.C_alloc ?_ _) | (with_reducible refine Kd.C_drewN ?_ _) | (with_reducible refine Kd.C_drew ?_))); (case side2 => exact (Kd.R_reads' HO250.out).2.1); rintro e w23 ⟨v253, rfl, ho0, hb⟩; have n0_ := Aside0.mk (Kd.V_elder' (by (with_reducible repeat (first | apply Kd.V_alloc | apply Kd.V_drewN | apply Kd.V_drew)); exact HO235.out) (Kd.R_base ho0) hb); have n1_ := Aside0.mk (Kd.R_elder' (by (with_reducible repeat (first | apply Kd.R_alloc | apply Kd.R_drewN | apply Kd.R_drew)); exact HO241.out) (Kd.R_base ho0) hb); have n2_ := Aside0.mk (Kd.R_elder' (by (with_reducible repeat (first | apply Kd.R_alloc | apply Kd.R_drewN | apply Kd.R_drew)); exact HO250.out) (Kd.R_base ho0) hb); have n3_ := Aside0.mk (Kd.R_lower (Kd.R_new' (Kd.R_new' ho0 (Kd.R_lt (by (with_reducible repeat (first | apply Kd.R_alloc | apply Kd.R_drewN | apply Kd.R_drew)); exact HO241.out))) (Kd.R_lt (by (with_reducible repeat (first | apply Kd.R_alloc | apply Kd.R_drewN | apply Kd.R_drew)); exact HO250.out))) (below_size (by repeat (first | (with_reducible first | exact HB.out | apply below_alloc | apply pw_below_drewN | apply below_drew1) | exact HB.out)))); have n4_ := Aside0.mk (below_step (by repeat (first | (with_reducible first | exact HB.out | apply below_alloc | apply pw_below_drewN | apply below_drew1) | exact HB.out)) hb); clear HO235; clear HO241; clear HO250; clear HB; have HO235 := n0_; have HO241 := n1_; have HO250 := n2_; have HO254 := n3_; have HB := n4_; clear n0_ n1_ n2_ n3_ n4_; (try clear hb); (try clear hb2); (try clear hk); (try clear hi); (try clear ho0))); go_upto_region 6 with (first | (go_at_call 42; (with_reducible refine (footwaylaw07_few.calls (fun k_ => k_ < w.heap.size) _ _ l0 t233 _ ?side1 A7.out).mono ?_); (case side1 => exact Kd.V_mk HC0.out (Kd.F_below (Kd.C_F (Kd.heap_int .i64) HR0.out) (by repeat (first | (with_reducible first | exact HB.out | apply below_alloc | apply pw_below_drewN | apply below_drew1) | exact HB.out)))); rintro e w14 ⟨v234, rfl, ho0, hb⟩; have n0_ := Aside0.mk (Kd.V_lower (Kd.V_mono (ok' := fun k_ => True) ho0 (fun k_ hk_ => trivial)) (below_size (by repeat (first | (with_reducible first | exact HB.out | apply below_alloc | apply pw_below_drewN | apply below_drew1) | exact HB.out)))); have n1_ := Aside0.mk (below_step (by repeat (first | (with_reducible first | exact HB.out | apply below_alloc | apply pw_below_drewN | apply below_drew1) | exact HB.out)) hb); clear HB; have HO235 := n0_; have HB := n1_; clear n0_ n1_; (try clear hb); (try clear hb2); (try clear hk); (try clear hi); (try clear ho0)) | (go_at_call 44; (with_reducible refine (hash_Bucket.calls k a1 ji6 t236 t237 _ A8.out).mono ?_); rintro e w15 ⟨rfl, hb⟩; have n0_ := Aside0.mk (Kd.V_below (by (with_reducible repeat (first | apply Kd.V_alloc | apply Kd.V_drewN | apply Kd.V_drew)); exact HO235.out) hb); have n1_ := Aside0.mk (below_step (by repeat (first | (with_reducible first | exact HB.out | apply below_alloc | apply pw_below_drewN | apply below_drew1) | exact HB.out)) hb); clear HO235; clear HB; have HO235 := n0_; have HB := n1_; clear n0_ n1_; (try clear hb); (try clear hb2); (try clear hk); (try clear hi); obtain ⟨Ao16, co16, eo16⟩ := Kd.V_slice HO235.out; subst eo16) | (go_at_call 45; (with_reducible refine (hash_Spread.calls _ _ t233 ji6 t238 t239 _ ?side1 ?side2 A9.out).mono ?_); (case side1 => repeat (first | exact (Kd.V_reads' HO235.out).2.2 | (with_reducible refine Kd.C_alloc ?_ _) | (with_reducible refine Kd.C_drewN ?_ _) | (with_reducible refine Kd.C_drew ?_))); (case side2 => exact (Kd.V_reads' HO235.out).2.1); rintro e w17 ⟨v240, rfl, ho0, hb⟩; have n0_ := Aside0.mk (Kd.V_elder' (by (with_reducible repeat (first | apply Kd.V_alloc | apply Kd.V_drewN | apply Kd.V_drew)); exact HO235.out) (Kd.R_base ho0) hb); have n1_ := Aside0.mk (Kd.R_lower ho0 (below_size (by repeat (first | (with_reducible first | exact HB.out | apply below_alloc | apply pw_below_drewN | apply below_drew1) | exact HB.out)))); have n2_ := Aside0.mk (below_step (by repeat (first | (with_reducible first | exact HB.out | apply below_alloc | apply pw_below_drewN | apply below_drew1) | exact HB.out)) hb); clear HO235; clear HB; have HO235 := n0_; have HO241 := n1_; have HB := n2_; clear n0_ n1_ n2_; (try clear hb); (try clear hb2); (try clear hk); (try clear hi); (try clear ho0)) | ((with_reducible refine gate_dst (N := 35) rfl ?_); (try (refine gate_guard (by rfl) ?_; dsimp only)); refine Kd.R_lit (Kd.int .i64) _ 3 ?hg (N := 35) ?hd (xs := ([] : List Int)) (inner := []) (ok := fun _ => True) (okp := fun _ => True) ?hr ?hp (fun _ hk => hk) trivial (Below.refl _ _) (Nat.le_refl _) (by simp) ?_; (case hd => rfl); (case hg => rfl); (case hr => first | (go_simp; done) | (go_simp; rfl)); (case hp => exact (Reps.none _ _)); intro v243 w18 ho19 hb hg_ hnew_; clear hg_ hnew_; (first | rw [← Ny242.out] at ho19 | (simp only [Int.reduceToNat] at ho19; rw [← Ny242.out] at ho19)); have n0_ := Aside0.mk (Kd.V_elder' (by (with_reducible repeat (first | apply Kd.V_alloc | apply Kd.V_drewN | apply Kd.V_drew)); exact HO235.out) (Kd.R_base ho19) hb); have n1_ := Aside0.mk (Kd.R_elder' (by (with_reducible repeat (first | apply Kd.R_alloc | apply Kd.R_drewN | apply Kd.R_drew)); exact HO241.out) (Kd.R_base ho19) hb); have n2_ := Aside0.mk (Kd.R_lower (Kd.R_new' ho19 (Kd.R_lt (by (with_reducible repeat (first | apply Kd.R_alloc | apply Kd.R_drewN | apply Kd.R_drew)); exact HO241.out))) (below_size (by repeat (first | (with_reducible first | exact HB.out | apply below_alloc | apply pw_below_drewN | apply below_drew1) | exact HB.out)))); have n3_ := Aside0.mk (below_step (by repeat (first | (with_reducible first | exact HB.out | apply below_alloc | apply pw_below_drewN | apply below_drew1) | exact HB.out)) hb); clear HO235; clear HO241; clear HB; have HO235 := n0_; have HO241 := n1_; have HO244 := n2_; have HB := n3_; clear n0_ n1_ n2_ n3_; clear hb ho19) | ((with_reducible refine gate_builtin (b := .append) (xs := #[.tmp 35, .tmp 36]) rfl ?_); (try (refine gate_guard (by rfl) ?_; dsimp only)); at_builtin; refine Kd.R_append_rows (Kd.int .i64) (w0 := w) w.heap.size rfl (.tmp 35) (.tmp 36) 57 3 (.int .i64 0) 8 rfl Th.underlying57 info3 rfl (by decide) (by omega) v243 y242 t233 _ _ _ (fun k_ => some k_ ≠ (v240 : Value).ownBlock) (fun _ => False) rfl rfl ?aO ?aR (fun _ _ h => h) (fun _ h => h.elim) ?aF ?aB ?aS ?aL ?_; (case aR => repeat (first | exact (Kd.V_reads' HO235.out).2.2 | (with_reducible refine Kd.C_alloc ?_ _) | (with_reducible refine Kd.C_drewN ?_ _) | (with_reducible refine Kd.C_drew ?_))); (case aB => exact (by repeat (first | (with_reducible first | exact HB.out | apply below_alloc | apply pw_below_drewN | apply below_drew1) | exact HB.out))); (case aF => exact (fun k_ hk => Kd.fresh' (Kd.R_lt (by (with_reducible repeat (first | apply Kd.R_alloc | apply Kd.R_drewN | apply Kd.R_drew)); exact HO241.out)) k_ hk)); (case aO => exact (by (with_reducible repeat (first | apply Kd.R_alloc | apply Kd.R_drewN | apply Kd.R_drew)); exact Kd.R_mono HO244.out (fun _ hk => hk.2))); (case aS => exact (below_size (by repeat (first | (with_reducible first | exact HB.out | apply below_alloc | apply pw_below_drewN | apply below_drew1) | exact HB.out)))); (case aL => have := LMc10.out; omega); intro v246 w20 ho hb hg hat; rw [← Ny245.out] at ho; have n0_ := Aside0.mk (Kd.V_afterv (ok := (fun k_ => some k_ ≠ (v240 : Value).ownBlock)) (by (with_reducible repeat (first | apply Kd.V_alloc | apply Kd.V_drewN | apply Kd.V_drew)); exact Kd.V_mono HO235.out (fun _ hk => ⟨hk.1.2, hk.2⟩)) hg hat); have n1_ := Aside0.mk (Kd.R_after (ok := (fun _ => True)) (by (with_reducible repeat (first | apply Kd.R_alloc | apply Kd.R_drewN | apply Kd.R_drew)); exact HO241.out) hg hat); have n2_ := Aside0.mk (hb); have n3_ := Aside0.mk (ho); clear HO235; clear HO241; clear HB; clear HO244; have HO235 := n0_; have HO241 := n1_; have HB := n2_; have HO247 := n3_; clear n0_ n1_ n2_ n3_; clear ho hb hg hat) | ((with_reducible refine gate_builtin (b := .append) (xs := #[.tmp 37, .tmp 39]) rfl ?_); (try (refine gate_guard (by rfl) ?_; dsimp only)); at_builtin; refine Kd.R_append (Kd.int .i64) (w0 := w) w.heap.size rfl (.tmp 37) (.tmp 39) 57 3 (.int .i64 0) 8 rfl Th.underlying57 info3 rfl (by decide) (by omega) v246 y245 a1 [.int .i64 a1] (fun k_ => some k_ ≠ (v240 : Value).ownBlock) (fun _ => False) rfl rfl ?aP (fun _ hk => hk.elim) ?aF ?aO ?aB ?aS ?aL ?_; (case aP => exact rfl); (case aB => exact (by repeat (first | (with_reducible first | exact HB.out | apply below_alloc | apply pw_below_drewN | apply below_drew1) | exact HB.out))); (case aF => exact (fun k_ hk => Kd.fresh' (Kd.R_lt (by (with_reducible repeat (first | apply Kd.R_alloc | apply Kd.R_drewN | apply Kd.R_drew)); exact HO241.out)) k_ hk)); (case aO => exact (by (with_reducible repeat (first | apply Kd.R_alloc | apply Kd.R_drewN | apply Kd.R_drew)); exact HO247.out)); (case aS => exact (below_size (by repeat (first | (with_reducible first | exact HB.out | apply below_alloc | apply pw_below_drewN | apply below_drew1) | exact HB.out)))); (case aL => have := LMc11.out; omega); intro v249 w21 ho hb hg hat; rw [← Ny248.out] at ho; have n0_ := Aside0.mk (Kd.V_afterv (ok := (fun k_ => some k_ ≠ (v240 : Value).ownBlock)) (by (with_reducible repeat (first | apply Kd.V_alloc | apply Kd.V_drewN | apply Kd.V_drew)); exact HO235.out) hg hat); have n1_ := Aside0.mk (Kd.R_after (ok := (fun _ => True)) (by (with_reducible repeat (first | apply Kd.R_alloc | apply Kd.R_drewN | apply Kd.R_drew)); exact HO241.out) hg hat); have n2_ := Aside0.mk (hb); have n3_ := Aside0.mk (ho); clear HO235; clear HO241; clear HB; clear HO247; have HO235 := n0_; have HO241 := n1_; have HB := n2_; have HO250 := n3_; clear n0_ n1_ n2_ n3_; clear ho hb hg hat; obtain ⟨Ao22, co22, eo22⟩ := Kd.R_slice HO250.out; subst eo22) | (go_at_call 45; (with_reducible refine (hash_Spread.calls _ _ y248 ji6 t251 t252 _ ?side1 ?side2 A12.out).mono ?_); (case side1 => repeat (first | exact (Kd.R_reads' HO250.out).2.2 | (with_reducible refine Kd.C_alloc ?_ _) | (with_reducible refine Kd.C_drewN ?_ _) | (with_reducible refine Kd.C_drew ?_))); (case side2 => exact (Kd.R_reads' HO250.out).2.1); rintro e w23 ⟨v253, rfl, ho0, hb⟩; have n0_ := Aside0.mk (Kd.V_elder' (by (with_reducible repeat (first | apply Kd.V_alloc | apply Kd.V_drewN | apply Kd.V_drew)); exact HO235.out) (Kd.R_base ho0) hb); have n1_ := Aside0.mk (Kd.R_elder' (by (with_reducible repeat (first | apply Kd.R_alloc | apply Kd.R_drewN | apply Kd.R_drew)); exact HO241.out) (Kd.R_base ho0) hb); have n2_ := Aside0.mk (Kd.R_elder' (by (with_reducible repeat (first | apply Kd.R_alloc | apply Kd.R_drewN | apply Kd.R_drew)); exact HO250.out) (Kd.R_base ho0) hb); have n3_ := Aside0.mk (Kd.R_lower (Kd.R_new' (Kd.R_new' ho0 (Kd.R_lt (by (with_reducible repeat (first | apply Kd.R_alloc | apply Kd.R_drewN | apply Kd.R_drew)); exact HO241.out))) (Kd.R_lt (by (with_reducible repeat (first | apply Kd.R_alloc | apply Kd.R_drewN | apply Kd.R_drew)); exact HO250.out))) (below_size (by repeat (first | (with_reducible first | exact HB.out | apply below_alloc | apply pw_below_drewN | apply below_drew1) | exact HB.out)))); have n4_ := Aside0.mk (below_step (by repeat (first | (with_reducible first | exact HB.out | apply below_alloc | apply pw_below_drewN | apply below_drew1) | exact HB.out)) hb); clear HO235; clear HO241; clear HO250; clear HB; have HO235 := n0_; have HO241 := n1_; have HO250 := n2_; have HO254 := n3_; have HB := n4_; clear n0_ n1_ n2_ n3_ n4_; (try clear hb); (try clear hb2); (try clear hk); (try clear hi); (try clear ho0))))
    (try simp only [Act.put, List.setIfInBounds_toArray, List.set_cons_zero, List.set_cons_succ])
    go_cut [50] (fun v50 wc => ∃ (kq : Nat) (x50_12 : Bool), v50 = .bool x50_12 ∧ Aside0 (footwaylaw07_HashOne.j0 kq ji6 t236 t238 t251 t252 x50_12 = some r) ∧ Aside0 (kq ≤ k) ∧ Aside0 (Kd.R (Kd.int .i64) 3 wc w.heap.size (fun k_ => some k_ ≠ (v253 : Value).ownBlock) v240 t238) ∧ Aside0 (Kd.R (Kd.int .i64) 3 wc w.heap.size (fun k_ => some k_ ≠ (v240 : Value).ownBlock) v253 t251) ∧ Aside0 (Below w.heap.size w wc))
    case first =>
     have H := HC13.out
     clear HC13
     by_cases c24 : t237 = 0
     ·rw [if_pos c24] at H
      have c24b0 : (t237 == 0) = true := beq_iff_eq.mpr c24
      have c24b1 : (t237 != 0) = false := bne_eq_false_iff_eq.mpr c24
      clear c24
      (first | rw [c24b0] | (simp only [i64_w, i32_w]; rw [c24b0]) | skip)
      have H' := Aside0.mk H
      clear H
      go_wp2
      repeat (go_quiet (fail); try go_wp2)
      go_meet
      case rel => exact ⟨_, ((t239 != 0)), (by first | rfl | (simp; done) | (simp [*]; done)), H', ⟨by first | omega | exact Nat.le_refl _⟩, ⟨by (with_reducible repeat (first | apply Kd.R_alloc | apply Kd.R_drewN | apply Kd.R_drew)); exact Kd.R_mono HO241.out (fun _ hk => hk.2)⟩, ⟨by (with_reducible repeat (first | apply Kd.R_alloc | apply Kd.R_drewN | apply Kd.R_drew)); exact Kd.R_mono HO254.out (fun _ hk => hk.1.2)⟩, ⟨by repeat (first | (with_reducible first | exact HB.out | apply below_alloc | apply pw_below_drewN | apply below_drew1) | exact HB.out)⟩⟩
     ·rw [if_neg c24] at H
      have c24b0 : (t237 == 0) = false := beq_eq_false_iff_ne.mpr c24
      have c24b1 : (t237 != 0) = true := bne_iff_ne.mpr c24
      (first | rw [c24b0] | (simp only [i64_w, i32_w]; rw [c24b0]) | skip)
      have H' := Aside0.mk H
      clear H
      go_wp2
      repeat (go_quiet (fail); try go_wp2)
      go_meet
      case rel => exact ⟨_, (true), (by first | rfl | (simp; done) | (simp [*]; done)), H', ⟨by first | omega | exact Nat.le_refl _⟩, ⟨by (with_reducible repeat (first | apply Kd.R_alloc | apply Kd.R_drewN | apply Kd.R_drew)); exact Kd.R_mono HO241.out (fun _ hk => hk.2)⟩, ⟨by (with_reducible repeat (first | apply Kd.R_alloc | apply Kd.R_drewN | apply Kd.R_drew)); exact Kd.R_mono HO254.out (fun _ hk => hk.1.2)⟩, ⟨by repeat (first | (with_reducible first | exact HB.out | apply below_alloc | apply pw_below_drewN | apply below_drew1) | exact HB.out)⟩⟩
    case rest =>
     clear HC13
     try clear c1
     try clear c2
     try clear p2
     try clear c5
     try clear c5b0
     try clear c5b1
     try clear p6
     try clear c10
     try clear c11
     try clear c13
     try clear c24
     try clear c24b0
     try clear c24b1
     obtain ⟨kq, x50_12, rfl, HA, HJ12, HO_10, HO_12, HB⟩ := hcut
     cases kq with
     | zero => exact absurd HA.out (by simp [footwaylaw07_HashOne.j0])
     | succ kj12 =>
      have H := HA.out
      clear HA
      simp only [footwaylaw07_HashOne.j0] at H
      by_cases c25 : x50_12 = true
      ·subst c25
       have H1 : ((footwaylaw07_alive.f kj12).bind fun t255 => (if t255 = true then (if t252 = 1 then (some ((t251.length : Int) == 0)) else (some false)) else (some false))) = some r := by rw [if_pos rfl] at H; exact H
       clear H
       have H := H1
       clear H1
       replace H := Option.bind_eq_some_iff.mp H
       obtain ⟨t255, A260, H⟩ := H
       replace H : (if t255 = true then (if t252 = 1 then (some ((t251.length : Int) == 0)) else (some false)) else (some false)) = some r := H
       have A26 := Aside0.mk A260
       clear A260
       by_cases c27 : t255 = true
       ·subst c27
        have H1 : (if t252 = 1 then (some ((t251.length : Int) == 0)) else (some false)) = some r := by rw [if_pos rfl] at H; exact H
        clear H
        have H := H1
        clear H1
        by_cases c28 : t252 = 1
        ·rw [if_pos c28] at H
         have c28b0 : (t252 == 1) = true := beq_iff_eq.mpr c28
         have c28b1 : (t252 != 1) = false := bne_eq_false_iff_eq.mpr c28
         clear c28
         obtain rfl := Option.some.inj H
         go_wp2_with (first | (go_at_call 49; (with_reducible refine (footwaylaw07_alive.calls kj12  true _ A26.out).mono ?_); rintro e w29 ⟨rfl, hb⟩; have n0_ := Aside0.mk (Kd.R_below (by (with_reducible repeat (first | apply Kd.R_alloc | apply Kd.R_drewN | apply Kd.R_drew)); exact HO_10.out) hb); have n1_ := Aside0.mk (Kd.R_below (by (with_reducible repeat (first | apply Kd.R_alloc | apply Kd.R_drewN | apply Kd.R_drew)); exact HO_12.out) hb); have n2_ := Aside0.mk (below_step (by repeat (first | (with_reducible first | exact HB.out | apply below_alloc | apply pw_below_drewN | apply below_drew1) | exact HB.out)) hb); clear HO_10; clear HO_12; clear HB; have HO_10 := n0_; have HO_12 := n1_; have HB := n2_; clear n0_ n1_ n2_; (try clear hb); (try clear hb2); (try clear hk); (try clear hi); obtain ⟨Ao30, co30, eo30⟩ := Kd.R_slice HO_12.out; subst eo30))
         repeat (go_quiet (first | (go_at_call 49; (with_reducible refine (footwaylaw07_alive.calls kj12  true _ A26.out).mono ?_); rintro e w29 ⟨rfl, hb⟩; have n0_ := Aside0.mk (Kd.R_below (by (with_reducible repeat (first | apply Kd.R_alloc | apply Kd.R_drewN | apply Kd.R_drew)); exact HO_10.out) hb); have n1_ := Aside0.mk (Kd.R_below (by (with_reducible repeat (first | apply Kd.R_alloc | apply Kd.R_drewN | apply Kd.R_drew)); exact HO_12.out) hb); have n2_ := Aside0.mk (below_step (by repeat (first | (with_reducible first | exact HB.out | apply below_alloc | apply pw_below_drewN | apply below_drew1) | exact HB.out)) hb); clear HO_10; clear HO_12; clear HB; have HO_10 := n0_; have HO_12 := n1_; have HB := n2_; clear n0_ n1_ n2_; (try clear hb); (try clear hb2); (try clear hk); (try clear hi); obtain ⟨Ao30, co30, eo30⟩ := Kd.R_slice HO_12.out; subst eo30)); try go_wp2_with (first | (go_at_call 49; (with_reducible refine (footwaylaw07_alive.calls kj12  true _ A26.out).mono ?_); rintro e w29 ⟨rfl, hb⟩; have n0_ := Aside0.mk (Kd.R_below (by (with_reducible repeat (first | apply Kd.R_alloc | apply Kd.R_drewN | apply Kd.R_drew)); exact HO_10.out) hb); have n1_ := Aside0.mk (Kd.R_below (by (with_reducible repeat (first | apply Kd.R_alloc | apply Kd.R_drewN | apply Kd.R_drew)); exact HO_12.out) hb); have n2_ := Aside0.mk (below_step (by repeat (first | (with_reducible first | exact HB.out | apply below_alloc | apply pw_below_drewN | apply below_drew1) | exact HB.out)) hb); clear HO_10; clear HO_12; clear HB; have HO_10 := n0_; have HO_12 := n1_; have HB := n2_; clear n0_ n1_ n2_; (try clear hb); (try clear hb2); (try clear hk); (try clear hi); obtain ⟨Ao30, co30, eo30⟩ := Kd.R_slice HO_12.out; subst eo30)))
         go_ret
         exact ⟨by first | rfl | (simp [errW_none, errW_some] <;> rfl) | (simp only [← hji4, ← hji6]; first | rfl | (simp [errW_none, errW_some] <;> rfl)) | (simp [*, errW_none, errW_some] <;> rfl), by repeat (first | (with_reducible first | exact HB.out | apply below_alloc | apply pw_below_drewN | apply below_drew1) | exact HB.out)⟩
        ·rw [if_neg c28] at H
         have c28b0 : (t252 == 1) = false := beq_eq_false_iff_ne.mpr c28
         have c28b1 : (t252 != 1) = true := bne_iff_ne.mpr c28
         obtain rfl := Option.some.inj H
         go_wp2_with (first | (go_at_call 49; (with_reducible refine (footwaylaw07_alive.calls kj12  true _ A26.out).mono ?_); rintro e w31 ⟨rfl, hb⟩; have n0_ := Aside0.mk (Kd.R_below (by (with_reducible repeat (first | apply Kd.R_alloc | apply Kd.R_drewN | apply Kd.R_drew)); exact HO_10.out) hb); have n1_ := Aside0.mk (Kd.R_below (by (with_reducible repeat (first | apply Kd.R_alloc | apply Kd.R_drewN | apply Kd.R_drew)); exact HO_12.out) hb); have n2_ := Aside0.mk (below_step (by repeat (first | (with_reducible first | exact HB.out | apply below_alloc | apply pw_below_drewN | apply below_drew1) | exact HB.out)) hb); clear HO_10; clear HO_12; clear HB; have HO_10 := n0_; have HO_12 := n1_; have HB := n2_; clear n0_ n1_ n2_; (try clear hb); (try clear hb2); (try clear hk); (try clear hi)))
         repeat (go_quiet (first | (go_at_call 49; (with_reducible refine (footwaylaw07_alive.calls kj12  true _ A26.out).mono ?_); rintro e w31 ⟨rfl, hb⟩; have n0_ := Aside0.mk (Kd.R_below (by (with_reducible repeat (first | apply Kd.R_alloc | apply Kd.R_drewN | apply Kd.R_drew)); exact HO_10.out) hb); have n1_ := Aside0.mk (Kd.R_below (by (with_reducible repeat (first | apply Kd.R_alloc | apply Kd.R_drewN | apply Kd.R_drew)); exact HO_12.out) hb); have n2_ := Aside0.mk (below_step (by repeat (first | (with_reducible first | exact HB.out | apply below_alloc | apply pw_below_drewN | apply below_drew1) | exact HB.out)) hb); clear HO_10; clear HO_12; clear HB; have HO_10 := n0_; have HO_12 := n1_; have HB := n2_; clear n0_ n1_ n2_; (try clear hb); (try clear hb2); (try clear hk); (try clear hi))); try go_wp2_with (first | (go_at_call 49; (with_reducible refine (footwaylaw07_alive.calls kj12  true _ A26.out).mono ?_); rintro e w31 ⟨rfl, hb⟩; have n0_ := Aside0.mk (Kd.R_below (by (with_reducible repeat (first | apply Kd.R_alloc | apply Kd.R_drewN | apply Kd.R_drew)); exact HO_10.out) hb); have n1_ := Aside0.mk (Kd.R_below (by (with_reducible repeat (first | apply Kd.R_alloc | apply Kd.R_drewN | apply Kd.R_drew)); exact HO_12.out) hb); have n2_ := Aside0.mk (below_step (by repeat (first | (with_reducible first | exact HB.out | apply below_alloc | apply pw_below_drewN | apply below_drew1) | exact HB.out)) hb); clear HO_10; clear HO_12; clear HB; have HO_10 := n0_; have HO_12 := n1_; have HB := n2_; clear n0_ n1_ n2_; (try clear hb); (try clear hb2); (try clear hk); (try clear hi))))
         go_ret
         exact ⟨by first | rfl | (simp [errW_none, errW_some] <;> rfl) | (simp only [← hji4, ← hji6]; first | rfl | (simp [errW_none, errW_some] <;> rfl)) | (simp [*, errW_none, errW_some] <;> rfl), by repeat (first | (with_reducible first | exact HB.out | apply below_alloc | apply pw_below_drewN | apply below_drew1) | exact HB.out)⟩
       ·replace c27 := Bool.eq_false_iff.mpr c27
        subst c27
        have H1 : (some false) = some r := by rw [if_neg (show ¬ (false = true) by decide)] at H; exact H
        clear H
        have H := H1
        clear H1
        obtain rfl := Option.some.inj H
        go_wp2_with (first | (go_at_call 49; (with_reducible refine (footwaylaw07_alive.calls kj12  false _ A26.out).mono ?_); rintro e w32 ⟨rfl, hb⟩; have n0_ := Aside0.mk (Kd.R_below (by (with_reducible repeat (first | apply Kd.R_alloc | apply Kd.R_drewN | apply Kd.R_drew)); exact HO_10.out) hb); have n1_ := Aside0.mk (Kd.R_below (by (with_reducible repeat (first | apply Kd.R_alloc | apply Kd.R_drewN | apply Kd.R_drew)); exact HO_12.out) hb); have n2_ := Aside0.mk (below_step (by repeat (first | (with_reducible first | exact HB.out | apply below_alloc | apply pw_below_drewN | apply below_drew1) | exact HB.out)) hb); clear HO_10; clear HO_12; clear HB; have HO_10 := n0_; have HO_12 := n1_; have HB := n2_; clear n0_ n1_ n2_; (try clear hb); (try clear hb2); (try clear hk); (try clear hi)))
        repeat (go_quiet (first | (go_at_call 49; (with_reducible refine (footwaylaw07_alive.calls kj12  false _ A26.out).mono ?_); rintro e w32 ⟨rfl, hb⟩; have n0_ := Aside0.mk (Kd.R_below (by (with_reducible repeat (first | apply Kd.R_alloc | apply Kd.R_drewN | apply Kd.R_drew)); exact HO_10.out) hb); have n1_ := Aside0.mk (Kd.R_below (by (with_reducible repeat (first | apply Kd.R_alloc | apply Kd.R_drewN | apply Kd.R_drew)); exact HO_12.out) hb); have n2_ := Aside0.mk (below_step (by repeat (first | (with_reducible first | exact HB.out | apply below_alloc | apply pw_below_drewN | apply below_drew1) | exact HB.out)) hb); clear HO_10; clear HO_12; clear HB; have HO_10 := n0_; have HO_12 := n1_; have HB := n2_; clear n0_ n1_ n2_; (try clear hb); (try clear hb2); (try clear hk); (try clear hi))); try go_wp2_with (first | (go_at_call 49; (with_reducible refine (footwaylaw07_alive.calls kj12  false _ A26.out).mono ?_); rintro e w32 ⟨rfl, hb⟩; have n0_ := Aside0.mk (Kd.R_below (by (with_reducible repeat (first | apply Kd.R_alloc | apply Kd.R_drewN | apply Kd.R_drew)); exact HO_10.out) hb); have n1_ := Aside0.mk (Kd.R_below (by (with_reducible repeat (first | apply Kd.R_alloc | apply Kd.R_drewN | apply Kd.R_drew)); exact HO_12.out) hb); have n2_ := Aside0.mk (below_step (by repeat (first | (with_reducible first | exact HB.out | apply below_alloc | apply pw_below_drewN | apply below_drew1) | exact HB.out)) hb); clear HO_10; clear HO_12; clear HB; have HO_10 := n0_; have HO_12 := n1_; have HB := n2_; clear n0_ n1_ n2_; (try clear hb); (try clear hb2); (try clear hk); (try clear hi))))
        go_ret
        exact ⟨by first | rfl | (simp [errW_none, errW_some] <;> rfl) | (simp only [← hji4, ← hji6]; first | rfl | (simp [errW_none, errW_some] <;> rfl)) | (simp [*, errW_none, errW_some] <;> rfl), by repeat (first | (with_reducible first | exact HB.out | apply below_alloc | apply pw_below_drewN | apply below_drew1) | exact HB.out)⟩
      ·replace c25 := Bool.eq_false_iff.mpr c25
       subst c25
       have H1 : (if t252 = 0 then (if (t238.length : Int) = ji6 then (if (t251.length : Int) = ji6 then (if t236 < 0 then (footwaylaw07_HashOne.j1 kj12 t236 t238 t251 true) else (if t236 ≥ ji6 then (footwaylaw07_HashOne.j1 kj12 t236 t238 t251 true) else ((footwaylaw07_alive.f kj12).bind fun t256 => (footwaylaw07_HashOne.j1 kj12 t236 t238 t251 (!t256))))) else (footwaylaw07_HashOne.j1 kj12 t236 t238 t251 true)) else (footwaylaw07_HashOne.j1 kj12 t236 t238 t251 true)) else (footwaylaw07_HashOne.j1 kj12 t236 t238 t251 true)) = some r := by rw [if_neg (show ¬ (false = true) by decide)] at H; exact H
       clear H
       have H := H1
       clear H1
       have HC33 := Aside0.mk H
       clear H
       go_upto_region 8 with (fail)
       repeat (go_quiet (fail); go_upto_region 8 with (fail))
       go_cut [87] (fun v87 wc => ∃ (kq : Nat) (x87_32 : Bool), v87 = .bool x87_32 ∧ Aside0 (footwaylaw07_HashOne.j1 kq t236 t238 t251 x87_32 = some r) ∧ Aside0 (kq ≤ kj12) ∧ Aside0 (Kd.R (Kd.int .i64) 3 wc w.heap.size (fun k_ => some k_ ≠ (v253 : Value).ownBlock) v240 t238) ∧ Aside0 (Kd.R (Kd.int .i64) 3 wc w.heap.size (fun k_ => some k_ ≠ (v240 : Value).ownBlock) v253 t251) ∧ Aside0 (Below w.heap.size w wc))
       case first =>
        have H := HC33.out
        clear HC33
        by_cases c34 : t252 = 0
        ·rw [if_pos c34] at H
         have c34b0 : (t252 == 0) = true := beq_iff_eq.mpr c34
         have c34b1 : (t252 != 0) = false := bne_eq_false_iff_eq.mpr c34
         clear c34
         (first | rw [c34b0] | (simp only [i64_w, i32_w]; rw [c34b0]) | skip)
         by_cases c35 : (t238.length : Int) = ji6
         ·rw [if_pos c35] at H
          have c35b0 : ((t238.length : Int) == ji6) = true := beq_iff_eq.mpr c35
          have c35b1 : ((t238.length : Int) != ji6) = false := bne_eq_false_iff_eq.mpr c35
          clear c35
          by_cases c36 : (t251.length : Int) = ji6
          ·rw [if_pos c36] at H
           have c36b0 : ((t251.length : Int) == ji6) = true := beq_iff_eq.mpr c36
           have c36b1 : ((t251.length : Int) != ji6) = false := bne_eq_false_iff_eq.mpr c36
           clear c36
           by_cases c37 : t236 < 0
           ·rw [if_pos c37] at H
            have c37b0 : decide (t236 < 0) = true := decide_eq_true c37
            clear c37
            have H' := Aside0.mk H
            clear H
            obtain ⟨Ao38, co38, eo38⟩ := Kd.R_slice HO_10.out
            subst eo38
            obtain ⟨Ao39, co39, eo39⟩ := Kd.R_slice HO_12.out
            subst eo39
            go_wp2
            repeat (go_quiet (fail); try go_wp2)
            go_meet
            case rel => exact ⟨_, (true), (by first | rfl | (simp; done) | (simp [*]; done)), H', ⟨by have := HJ12.out; first | omega | exact Nat.le_refl _⟩, ⟨by (with_reducible repeat (first | apply Kd.R_alloc | apply Kd.R_drewN | apply Kd.R_drew)); exact HO_10.out⟩, ⟨by (with_reducible repeat (first | apply Kd.R_alloc | apply Kd.R_drewN | apply Kd.R_drew)); exact HO_12.out⟩, ⟨by repeat (first | (with_reducible first | exact HB.out | apply below_alloc | apply pw_below_drewN | apply below_drew1) | exact HB.out)⟩⟩
           ·rw [if_neg c37] at H
            have c37b0 : decide (t236 < 0) = false := decide_eq_false c37
            clear c37
            by_cases c40 : t236 ≥ ji6
            ·rw [if_pos c40] at H
             have c40b0 : decide (ji6 ≤ t236) = true := decide_eq_true c40
             clear c40
             have H' := Aside0.mk H
             clear H
             obtain ⟨Ao41, co41, eo41⟩ := Kd.R_slice HO_10.out
             subst eo41
             obtain ⟨Ao42, co42, eo42⟩ := Kd.R_slice HO_12.out
             subst eo42
             go_wp2
             repeat (go_quiet (fail); try go_wp2)
             go_meet
             case rel => exact ⟨_, (true), (by first | rfl | (simp; done) | (simp [*]; done)), H', ⟨by have := HJ12.out; first | omega | exact Nat.le_refl _⟩, ⟨by (with_reducible repeat (first | apply Kd.R_alloc | apply Kd.R_drewN | apply Kd.R_drew)); exact HO_10.out⟩, ⟨by (with_reducible repeat (first | apply Kd.R_alloc | apply Kd.R_drewN | apply Kd.R_drew)); exact HO_12.out⟩, ⟨by repeat (first | (with_reducible first | exact HB.out | apply below_alloc | apply pw_below_drewN | apply below_drew1) | exact HB.out)⟩⟩
            ·rw [if_neg c40] at H
             have c40b0 : decide (ji6 ≤ t236) = false := decide_eq_false c40
             clear c40
             replace H := Option.bind_eq_some_iff.mp H
             obtain ⟨t256, A430, H⟩ := H
             replace H : (footwaylaw07_HashOne.j1 kj12 t236 t238 t251 (!t256)) = some r := H
             have A43 := Aside0.mk A430
             clear A430
             have H' := Aside0.mk H
             clear H
             obtain ⟨Ao44, co44, eo44⟩ := Kd.R_slice HO_10.out
             subst eo44
             obtain ⟨Ao45, co45, eo45⟩ := Kd.R_slice HO_12.out
             subst eo45
             go_wp2_with (first | (go_at_call 49; (with_reducible refine (footwaylaw07_alive.calls kj12  t256 _ A43.out).mono ?_); rintro e w46 ⟨rfl, hb⟩; have n0_ := Aside0.mk (Kd.R_below (by (with_reducible repeat (first | apply Kd.R_alloc | apply Kd.R_drewN | apply Kd.R_drew)); exact HO_10.out) hb); have n1_ := Aside0.mk (Kd.R_below (by (with_reducible repeat (first | apply Kd.R_alloc | apply Kd.R_drewN | apply Kd.R_drew)); exact HO_12.out) hb); have n2_ := Aside0.mk (below_step (by repeat (first | (with_reducible first | exact HB.out | apply below_alloc | apply pw_below_drewN | apply below_drew1) | exact HB.out)) hb); clear HO_10; clear HO_12; clear HB; have HO_10 := n0_; have HO_12 := n1_; have HB := n2_; clear n0_ n1_ n2_; (try clear hb); (try clear hb2); (try clear hk); (try clear hi)))
             repeat (go_quiet (first | (go_at_call 49; (with_reducible refine (footwaylaw07_alive.calls kj12  t256 _ A43.out).mono ?_); rintro e w46 ⟨rfl, hb⟩; have n0_ := Aside0.mk (Kd.R_below (by (with_reducible repeat (first | apply Kd.R_alloc | apply Kd.R_drewN | apply Kd.R_drew)); exact HO_10.out) hb); have n1_ := Aside0.mk (Kd.R_below (by (with_reducible repeat (first | apply Kd.R_alloc | apply Kd.R_drewN | apply Kd.R_drew)); exact HO_12.out) hb); have n2_ := Aside0.mk (below_step (by repeat (first | (with_reducible first | exact HB.out | apply below_alloc | apply pw_below_drewN | apply below_drew1) | exact HB.out)) hb); clear HO_10; clear HO_12; clear HB; have HO_10 := n0_; have HO_12 := n1_; have HB := n2_; clear n0_ n1_ n2_; (try clear hb); (try clear hb2); (try clear hk); (try clear hi))); try go_wp2_with (first | (go_at_call 49; (with_reducible refine (footwaylaw07_alive.calls kj12  t256 _ A43.out).mono ?_); rintro e w46 ⟨rfl, hb⟩; have n0_ := Aside0.mk (Kd.R_below (by (with_reducible repeat (first | apply Kd.R_alloc | apply Kd.R_drewN | apply Kd.R_drew)); exact HO_10.out) hb); have n1_ := Aside0.mk (Kd.R_below (by (with_reducible repeat (first | apply Kd.R_alloc | apply Kd.R_drewN | apply Kd.R_drew)); exact HO_12.out) hb); have n2_ := Aside0.mk (below_step (by repeat (first | (with_reducible first | exact HB.out | apply below_alloc | apply pw_below_drewN | apply below_drew1) | exact HB.out)) hb); clear HO_10; clear HO_12; clear HB; have HO_10 := n0_; have HO_12 := n1_; have HB := n2_; clear n0_ n1_ n2_; (try clear hb); (try clear hb2); (try clear hk); (try clear hi))))
             go_meet
             case rel => exact ⟨_, (!t256), (by first | rfl | (simp; done) | (simp [*]; done)), H', ⟨by have := HJ12.out; first | omega | exact Nat.le_refl _⟩, ⟨by (with_reducible repeat (first | apply Kd.R_alloc | apply Kd.R_drewN | apply Kd.R_drew)); exact HO_10.out⟩, ⟨by (with_reducible repeat (first | apply Kd.R_alloc | apply Kd.R_drewN | apply Kd.R_drew)); exact HO_12.out⟩, ⟨by repeat (first | (with_reducible first | exact HB.out | apply below_alloc | apply pw_below_drewN | apply below_drew1) | exact HB.out)⟩⟩
          ·rw [if_neg c36] at H
           have c36b0 : ((t251.length : Int) == ji6) = false := beq_eq_false_iff_ne.mpr c36
           have c36b1 : ((t251.length : Int) != ji6) = true := bne_iff_ne.mpr c36
           have H' := Aside0.mk H
           clear H
           obtain ⟨Ao47, co47, eo47⟩ := Kd.R_slice HO_10.out
           subst eo47
           obtain ⟨Ao48, co48, eo48⟩ := Kd.R_slice HO_12.out
           subst eo48
           go_wp2
           repeat (go_quiet (fail); try go_wp2)
           go_meet
           case rel => exact ⟨_, (true), (by first | rfl | (simp; done) | (simp [*]; done)), H', ⟨by have := HJ12.out; first | omega | exact Nat.le_refl _⟩, ⟨by (with_reducible repeat (first | apply Kd.R_alloc | apply Kd.R_drewN | apply Kd.R_drew)); exact HO_10.out⟩, ⟨by (with_reducible repeat (first | apply Kd.R_alloc | apply Kd.R_drewN | apply Kd.R_drew)); exact HO_12.out⟩, ⟨by repeat (first | (with_reducible first | exact HB.out | apply below_alloc | apply pw_below_drewN | apply below_drew1) | exact HB.out)⟩⟩
         ·rw [if_neg c35] at H
          have c35b0 : ((t238.length : Int) == ji6) = false := beq_eq_false_iff_ne.mpr c35
          have c35b1 : ((t238.length : Int) != ji6) = true := bne_iff_ne.mpr c35
          have H' := Aside0.mk H
          clear H
          obtain ⟨Ao49, co49, eo49⟩ := Kd.R_slice HO_10.out
          subst eo49
          go_wp2
          repeat (go_quiet (fail); try go_wp2)
          go_meet
          case rel => exact ⟨_, (true), (by first | rfl | (simp; done) | (simp [*]; done)), H', ⟨by have := HJ12.out; first | omega | exact Nat.le_refl _⟩, ⟨by (with_reducible repeat (first | apply Kd.R_alloc | apply Kd.R_drewN | apply Kd.R_drew)); exact HO_10.out⟩, ⟨by (with_reducible repeat (first | apply Kd.R_alloc | apply Kd.R_drewN | apply Kd.R_drew)); exact HO_12.out⟩, ⟨by repeat (first | (with_reducible first | exact HB.out | apply below_alloc | apply pw_below_drewN | apply below_drew1) | exact HB.out)⟩⟩
        ·rw [if_neg c34] at H
         have c34b0 : (t252 == 0) = false := beq_eq_false_iff_ne.mpr c34
         have c34b1 : (t252 != 0) = true := bne_iff_ne.mpr c34
         (first | rw [c34b0] | (simp only [i64_w, i32_w]; rw [c34b0]) | skip)
         have H' := Aside0.mk H
         clear H
         go_wp2
         repeat (go_quiet (fail); try go_wp2)
         go_meet
         case rel => exact ⟨_, (true), (by first | rfl | (simp; done) | (simp [*]; done)), H', ⟨by have := HJ12.out; first | omega | exact Nat.le_refl _⟩, ⟨by (with_reducible repeat (first | apply Kd.R_alloc | apply Kd.R_drewN | apply Kd.R_drew)); exact HO_10.out⟩, ⟨by (with_reducible repeat (first | apply Kd.R_alloc | apply Kd.R_drewN | apply Kd.R_drew)); exact HO_12.out⟩, ⟨by repeat (first | (with_reducible first | exact HB.out | apply below_alloc | apply pw_below_drewN | apply below_drew1) | exact HB.out)⟩⟩
       case rest =>
        clear HC33
        try clear c1
        try clear c2
        try clear p2
        try clear c3
        try clear c4
        try clear c5
        try clear c5b0
        try clear c5b1
        try clear p6
        try clear c10
        try clear c11
        try clear c13
        try clear c24
        try clear c24b0
        try clear c24b1
        try clear c25
        try clear c27
        try clear c28
        try clear c28b0
        try clear c28b1
        try clear c34
        try clear c34b0
        try clear c34b1
        try clear c35
        try clear c35b0
        try clear c35b1
        try clear c36
        try clear c36b0
        try clear c36b1
        try clear c37
        try clear c37b0
        try clear c40
        try clear c40b0
        try clear p2
        try clear p6
        obtain ⟨kq, x87_32, rfl, HA, HJ32, HO_10, HO_12, HB⟩ := hcut
        cases kq with
        | zero => exact absurd HA.out (by simp [footwaylaw07_HashOne.j1])
        | succ kj32 =>
         have H := HA.out
         clear HA
         simp only [footwaylaw07_HashOne.j1] at H
         by_cases c50 : x87_32 = true
         ·subst c50
          have H1 : (some false) = some r := by rw [if_pos rfl] at H; exact H
          clear H
          have H := H1
          clear H1
          obtain rfl := Option.some.inj H
          go_wp2
          repeat (go_quiet (fail); try go_wp2)
          go_ret
          exact ⟨by first | rfl | (simp [errW_none, errW_some] <;> rfl) | (simp only [← hji4, ← hji6]; first | rfl | (simp [errW_none, errW_some] <;> rfl)) | (simp [*, errW_none, errW_some] <;> rfl), by repeat (first | (with_reducible first | exact HB.out | apply below_alloc | apply pw_below_drewN | apply below_drew1) | exact HB.out)⟩
         ·replace c50 := Bool.eq_false_iff.mpr c50
          subst c50
          have H1 : (footwaylaw07_HashOne.l0 kj32 t236 t238 t251 (t251.length : Int) 0) = some r := by rw [if_neg (show ¬ (false = true) by decide)] at H; exact H
          clear H
          have H := H1
          clear H1
          have H' := Aside0.mk H
          clear H
          obtain ⟨Ao51, co51, eo51⟩ := Kd.R_slice HO_12.out
          subst eo51
          go_wp2
          repeat (go_quiet (fail); try go_wp2)
          go_loopg [90] kj32 (fun kq v90 w' => ∃ (x90_3 : Int), v90 = .int .i64 x90_3 ∧ Aside0 (footwaylaw07_HashOne.l0 kq t236 t238 t251 (t251.length : Int) x90_3 = some r) ∧ Aside0 (kq ≤ kj32) ∧ Aside0 (Kd.R (Kd.int .i64) 3 w' w.heap.size (fun k_ => some k_ ≠ ((.slice Ao51 t251.length co51) : Value).ownBlock) v240 t238) ∧ Aside0 (Kd.R (Kd.int .i64) 3 w' w.heap.size (fun k_ => some k_ ≠ (v240 : Value).ownBlock) (.slice Ao51 t251.length co51) t251) ∧ Aside0 (Below w.heap.size w w'))
          case atStart => exact ⟨(0), (by first | rfl | (simp; done) | (simp [*]; done)), H', ⟨Nat.le_refl _⟩, ⟨by (with_reducible repeat (first | apply Kd.R_alloc | apply Kd.R_drewN | apply Kd.R_drew)); exact HO_10.out⟩, ⟨by (with_reducible repeat (first | apply Kd.R_alloc | apply Kd.R_drewN | apply Kd.R_drew)); exact HO_12.out⟩, ⟨by repeat (first | (with_reducible first | exact HB.out | apply below_alloc | apply pw_below_drewN | apply below_drew1) | exact HB.out)⟩⟩
          case round =>
           clear H'
           try clear c1
           try clear c2
           try clear p2
           try clear c3
           try clear c4
           try clear c5
           try clear c5b0
           try clear c5b1
           try clear p6
           try clear c10
           try clear c11
           try clear c13
           try clear c24
           try clear c24b0
           try clear c24b1
           try clear c25
           try clear c27
           try clear c28
           try clear c28b0
           try clear c28b1
           try clear c34
           try clear c34b0
           try clear c34b1
           try clear c35
           try clear c35b0
           try clear c35b1
           try clear c36
           try clear c36b0
           try clear c36b1
           try clear c37
           try clear c37b0
           try clear c40
           try clear c40b0
           try clear c50
           try clear p2
           try clear p6
           obtain ⟨x90_3, rfl, HA, HK3, HO_10, HO_12, HB⟩ := hrel
           cases gk with
           | zero => exact absurd HA.out (by simp [footwaylaw07_HashOne.l0])
           | succ k3 =>
            have H := HA.out
            clear HA
            simp only [footwaylaw07_HashOne.l0] at H
            by_cases c52 : x90_3 < (t251.length : Int)
            ·rw [if_pos c52] at H
             have c52b0 : decide (x90_3 < (t251.length : Int)) = true := decide_eq_true c52
             clear c52
             by_cases c53 : x90_3 = t236
             ·rw [if_pos c53] at H
              have c53b0 : (x90_3 == t236) = true := beq_iff_eq.mpr c53
              have c53b1 : (x90_3 != t236) = false := bne_eq_false_iff_eq.mpr c53
              clear c53
              by_cases c54 : 0 ≤ x90_3
              ·rw [if_pos c54] at H
               have c54b0 : decide (0 ≤ x90_3) = true := decide_eq_true c54
               clear c54
               by_cases c55 : x90_3 < (t251.length : Int)
               ·rw [if_pos c55] at H
                have c55b0 : decide (x90_3 < (t251.length : Int)) = true := decide_eq_true c55
                clear c55
                by_cases c56 : x90_3 < (t238.length : Int)
                ·rw [if_pos c56] at H
                 have c56b0 : decide (x90_3 < (t238.length : Int)) = true := decide_eq_true c56
                 clear c56
                 by_cases c57 : (rd t251 x90_3) = (wrap64 ((rd t238 x90_3) + 1))
                 ·rw [if_pos c57] at H
                  have c57b0 : ((rd t251 x90_3) == (wrap64 ((rd t238 x90_3) + 1))) = true := beq_iff_eq.mpr c57
                  have c57b1 : ((rd t251 x90_3) != (wrap64 ((rd t238 x90_3) + 1))) = false := bne_eq_false_iff_eq.mpr c57
                  clear c57
                  have H' := Aside0.mk H
                  clear H
                  have p257 : 0 ≤ (x90_3 : Int) := of_decide_eq_true (by first | (with_reducible assumption) | assumption)
                  have q257 : x90_3 < (t251.length : Int) := of_decide_eq_true (by first | (with_reducible assumption) | assumption)
                  obtain ⟨ad257, e257, hx257_0⟩ := Kd.at_int (Kd.R_reads' HO_12.out).2.2 x90_3 p257 q257
                  cases e257
                  replace p257 := eq_true p257
                  replace q257 := eq_true q257
                  obtain ⟨Ao58, co58, eo58⟩ := Kd.R_slice HO_10.out
                  subst eo58
                  have p258 : 0 ≤ (x90_3 : Int) := of_decide_eq_true (by first | (with_reducible assumption) | assumption)
                  have q258 : x90_3 < (t238.length : Int) := of_decide_eq_true (by first | (with_reducible assumption) | assumption)
                  obtain ⟨ad258, e258, hx258_0⟩ := Kd.at_int (Kd.R_reads' HO_10.out).2.2 x90_3 p258 q258
                  cases e258
                  replace p258 := eq_true p258
                  replace q258 := eq_true q258
                  go_wp2
                  repeat (go_quiet (fail); try go_wp2)
                  go_roundg k3
                  case measure => have := HJ12.out; have := HJ32.out; have := HK3.out; omega
                  case rel => exact ⟨(wrap64 (x90_3 + 1)), (by first | rfl | (simp; done) | (simp [*]; done)), H', ⟨by have := HJ12.out; have := HJ32.out; have := HK3.out; omega⟩, ⟨by (with_reducible repeat (first | apply Kd.R_alloc | apply Kd.R_drewN | apply Kd.R_drew)); exact HO_10.out⟩, ⟨by (with_reducible repeat (first | apply Kd.R_alloc | apply Kd.R_drewN | apply Kd.R_drew)); exact HO_12.out⟩, ⟨by repeat (first | (with_reducible first | exact HB.out | apply below_alloc | apply pw_below_drewN | apply below_drew1) | exact HB.out)⟩⟩
                 ·rw [if_neg c57] at H
                  have c57b0 : ((rd t251 x90_3) == (wrap64 ((rd t238 x90_3) + 1))) = false := beq_eq_false_iff_ne.mpr c57
                  have c57b1 : ((rd t251 x90_3) != (wrap64 ((rd t238 x90_3) + 1))) = true := bne_iff_ne.mpr c57
                  obtain rfl := Option.some.inj H
                  have p257 : 0 ≤ (x90_3 : Int) := of_decide_eq_true (by first | (with_reducible assumption) | assumption)
                  have q257 : x90_3 < (t251.length : Int) := of_decide_eq_true (by first | (with_reducible assumption) | assumption)
                  obtain ⟨ad257, e257, hx257_0⟩ := Kd.at_int (Kd.R_reads' HO_12.out).2.2 x90_3 p257 q257
                  cases e257
                  replace p257 := eq_true p257
                  replace q257 := eq_true q257
                  obtain ⟨Ao59, co59, eo59⟩ := Kd.R_slice HO_10.out
                  subst eo59
                  have p258 : 0 ≤ (x90_3 : Int) := of_decide_eq_true (by first | (with_reducible assumption) | assumption)
                  have q258 : x90_3 < (t238.length : Int) := of_decide_eq_true (by first | (with_reducible assumption) | assumption)
                  obtain ⟨ad258, e258, hx258_0⟩ := Kd.at_int (Kd.R_reads' HO_10.out).2.2 x90_3 p258 q258
                  cases e258
                  replace p258 := eq_true p258
                  replace q258 := eq_true q258
                  go_wp2
                  repeat (go_quiet (fail); try go_wp2)
                  go_ret
                  exact ⟨by first | rfl | (simp [errW_none, errW_some] <;> rfl) | (simp only [← hji4, ← hji6]; first | rfl | (simp [errW_none, errW_some] <;> rfl)) | (simp [*, errW_none, errW_some] <;> rfl), by repeat (first | (with_reducible first | exact HB.out | apply below_alloc | apply pw_below_drewN | apply below_drew1) | exact HB.out)⟩
                ·rw [if_neg c56] at H
                 exact absurd H (by simp)
               ·rw [if_neg c55] at H
                exact absurd H (by simp)
              ·rw [if_neg c54] at H
               exact absurd H (by simp)
             ·rw [if_neg c53] at H
              have c53b0 : (x90_3 == t236) = false := beq_eq_false_iff_ne.mpr c53
              have c53b1 : (x90_3 != t236) = true := bne_iff_ne.mpr c53
              by_cases c60 : 0 ≤ x90_3
              ·rw [if_pos c60] at H
               have c60b0 : decide (0 ≤ x90_3) = true := decide_eq_true c60
               clear c60
               by_cases c61 : x90_3 < (t251.length : Int)
               ·rw [if_pos c61] at H
                have c61b0 : decide (x90_3 < (t251.length : Int)) = true := decide_eq_true c61
                clear c61
                by_cases c62 : x90_3 < (t238.length : Int)
                ·rw [if_pos c62] at H
                 have c62b0 : decide (x90_3 < (t238.length : Int)) = true := decide_eq_true c62
                 clear c62
                 by_cases c63 : (rd t251 x90_3) = (rd t238 x90_3)
                 ·rw [if_pos c63] at H
                  have c63b0 : ((rd t251 x90_3) == (rd t238 x90_3)) = true := beq_iff_eq.mpr c63
                  have c63b1 : ((rd t251 x90_3) != (rd t238 x90_3)) = false := bne_eq_false_iff_eq.mpr c63
                  clear c63
                  have H' := Aside0.mk H
                  clear H
                  have p259 : 0 ≤ (x90_3 : Int) := of_decide_eq_true (by first | (with_reducible assumption) | assumption)
                  have q259 : x90_3 < (t251.length : Int) := of_decide_eq_true (by first | (with_reducible assumption) | assumption)
                  obtain ⟨ad259, e259, hx259_0⟩ := Kd.at_int (Kd.R_reads' HO_12.out).2.2 x90_3 p259 q259
                  cases e259
                  replace p259 := eq_true p259
                  replace q259 := eq_true q259
                  obtain ⟨Ao64, co64, eo64⟩ := Kd.R_slice HO_10.out
                  subst eo64
                  have p260 : 0 ≤ (x90_3 : Int) := of_decide_eq_true (by first | (with_reducible assumption) | assumption)
                  have q260 : x90_3 < (t238.length : Int) := of_decide_eq_true (by first | (with_reducible assumption) | assumption)
                  obtain ⟨ad260, e260, hx260_0⟩ := Kd.at_int (Kd.R_reads' HO_10.out).2.2 x90_3 p260 q260
                  cases e260
                  replace p260 := eq_true p260
                  replace q260 := eq_true q260
                  go_wp2
                  repeat (go_quiet (fail); try go_wp2)
                  go_roundg k3
                  case measure => have := HJ12.out; have := HJ32.out; have := HK3.out; omega
                  case rel => exact ⟨(wrap64 (x90_3 + 1)), (by first | rfl | (simp; done) | (simp [*]; done)), H', ⟨by have := HJ12.out; have := HJ32.out; have := HK3.out; omega⟩, ⟨by (with_reducible repeat (first | apply Kd.R_alloc | apply Kd.R_drewN | apply Kd.R_drew)); exact HO_10.out⟩, ⟨by (with_reducible repeat (first | apply Kd.R_alloc | apply Kd.R_drewN | apply Kd.R_drew)); exact HO_12.out⟩, ⟨by repeat (first | (with_reducible first | exact HB.out | apply below_alloc | apply pw_below_drewN | apply below_drew1) | exact HB.out)⟩⟩
                 ·rw [if_neg c63] at H
                  have c63b0 : ((rd t251 x90_3) == (rd t238 x90_3)) = false := beq_eq_false_iff_ne.mpr c63
                  have c63b1 : ((rd t251 x90_3) != (rd t238 x90_3)) = true := bne_iff_ne.mpr c63
                  obtain rfl := Option.some.inj H
                  have p259 : 0 ≤ (x90_3 : Int) := of_decide_eq_true (by first | (with_reducible assumption) | assumption)
                  have q259 : x90_3 < (t251.length : Int) := of_decide_eq_true (by first | (with_reducible assumption) | assumption)
                  obtain ⟨ad259, e259, hx259_0⟩ := Kd.at_int (Kd.R_reads' HO_12.out).2.2 x90_3 p259 q259
                  cases e259
                  replace p259 := eq_true p259
                  replace q259 := eq_true q259
                  obtain ⟨Ao65, co65, eo65⟩ := Kd.R_slice HO_10.out
                  subst eo65
                  have p260 : 0 ≤ (x90_3 : Int) := of_decide_eq_true (by first | (with_reducible assumption) | assumption)
                  have q260 : x90_3 < (t238.length : Int) := of_decide_eq_true (by first | (with_reducible assumption) | assumption)
                  obtain ⟨ad260, e260, hx260_0⟩ := Kd.at_int (Kd.R_reads' HO_10.out).2.2 x90_3 p260 q260
                  cases e260
                  replace p260 := eq_true p260
                  replace q260 := eq_true q260
                  go_wp2
                  repeat (go_quiet (fail); try go_wp2)
                  go_ret
                  exact ⟨by first | rfl | (simp [errW_none, errW_some] <;> rfl) | (simp only [← hji4, ← hji6]; first | rfl | (simp [errW_none, errW_some] <;> rfl)) | (simp [*, errW_none, errW_some] <;> rfl), by repeat (first | (with_reducible first | exact HB.out | apply below_alloc | apply pw_below_drewN | apply below_drew1) | exact HB.out)⟩
                ·rw [if_neg c62] at H
                 exact absurd H (by simp)
               ·rw [if_neg c61] at H
                exact absurd H (by simp)
              ·rw [if_neg c60] at H
               exact absurd H (by simp)
            ·rw [if_neg c52] at H
             have c52b0 : decide (x90_3 < (t251.length : Int)) = false := decide_eq_false c52
             clear c52
             obtain rfl := Option.some.inj H
             go_wp2
             repeat (go_quiet (fail); try go_wp2)
             go_ret
             exact ⟨by first | rfl | (simp [errW_none, errW_some] <;> rfl) | (simp only [← hji4, ← hji6]; first | rfl | (simp [errW_none, errW_some] <;> rfl)) | (simp [*, errW_none, errW_some] <;> rfl), by repeat (first | (with_reducible first | exact HB.out | apply below_alloc | apply pw_below_drewN | apply below_drew1) | exact HB.out)⟩
   ·rw [if_neg c11] at H
    exact absurd H (by simp)
  ·rw [if_neg c10] at H
   exact absurd H (by simp)
 ·rw [if_neg c5] at H
  exact absurd H (by simp)
def footwaylaw07_HashOne.Pure : Prop := ∀ (l0 : List Int) (a1 : Int) (a2 : Int), l0.length ≤ maxLen → l0.length * 8 ≤ 140737488351232 → (∀ x ∈ l0, (Lit.int .i64 x).wf = true) → (Lit.int .i64 a1).wf = true → (Lit.int .i64 a2).wf = true → ∃ k, footwaylaw07_HashOne.f k l0 a1 a2 = some true
theorem footwaylaw07_HashOne.walk (P : footwaylaw07_HashOne.Pure) (a0 : Option Addr) (len0 cap0 : Nat) (z0 : List Int) (a1 : Int) (a2 : Int) (w : World) (w0 : (a0 = none ∧ len0 = 0 ∧ cap0 = 0 ∧ z0 = []) ∨ ∃ x, a0 = some x ∧ len0 ≤ cap0 ∧ cap0 ≤ maxLen ∧ z0.length = cap0 ∧ (∀ i, i < z0.length → w.cell? (x.add i) = some (.int .i64 (z0.getD i 0))) ∧ ∀ n ∈ z0, (Lit.int .i64 n).wf = true) (y0 : len0 * 8 ≤ 140737488351232) (w1 : (Lit.int .i64 a1).wf = true) (w2 : (Lit.int .i64 a2).wf = true) :
  Calls Th.prog 13 #[.slice a0 len0 cap0, .int .i64 a1, .int .i64 a2] w fun e w' => e = .returned (.bool true) ∧ Below w.heap.size w w' := by
 obtain ⟨l0, rfl, hr0, hm0, hw0, hc0⟩ := ReadsInt.ofRowC w0
 obtain ⟨k, h⟩ := P l0 a1 a2 hm0 y0 hw0 w1 w2
 refine (footwaylaw07_HashOne.calls k _ _ l0 a1 a2 true w (Kd.C_of_reads (d := (0 : Int)) (h1 := fun _ => rfl) hr0) hc0 h).mono ?_
 rintro e w' ⟨rfl, hd⟩
 exact ⟨rfl, hd⟩
end Go.Proofs.Ytnikfjfcbpeieaa.PHp
end
section
namespace Go.Proofs.Ytnikfjfcbpeieaa.Pure
open Go.RowKit Go.Proofs.Ytnikfjfcbpeieaa.PHp Go.Proofs.Ytnikfjfcbpeieaa.HP Go.Proofs.Ytnikfjfcbpeieaa.EHa Go.Proofs.YtnikfjfcbpeieaaW.PrintWords Go.Proofs.YtnikfjfcbpeieaaW.PrintLast Go.Proofs.YtnikfjfcbpeieaaW.PrintMore
set_option linter.unusedVariables false
set_option linter.unusedSimpArgs false
theorem tmod_small (k : Int) {m : Int} (hm : 0 < m) (hm2 : m ≤ 100) : 0 ≤ Int.tmod (wrap64 (Int.tmod k m + m)) m ∧ Int.tmod (wrap64 (Int.tmod k m + m)) m < m := by
 have h1 : -m < Int.tmod k m ∧ Int.tmod k m < m := ⟨Int.lt_tmod_of_pos k hm, Int.tmod_lt_of_pos k hm⟩
 generalize Int.tmod k m = r at *
 have e : wrap64 (r + m) = r + m := by unfold wrap64; omega
 rw [e, Int.tmod_eq_emod_of_nonneg (by omega)]
 exact ⟨Int.emod_nonneg _ (by omega), Int.emod_lt_of_pos _ hm⟩
theorem shl_one {e : Int} (h0 : 0 ≤ e) (h1 : e < 5) : ∃ n : Nat, shl .i64 1 e = (n : Int) ∧ ((n : Int) = 1 ∨ (n : Int) = 2 ∨ (n : Int) = 4 ∨ (n : Int) = 8 ∨ (n : Int) = 16) := by
 have : e = 0 ∨ e = 1 ∨ e = 2 ∨ e = 3 ∨ e = 4 := by omega
 rcases this with rfl | rfl | rfl | rfl | rfl
 ·exact ⟨1, by decide, by decide⟩
 ·exact ⟨2, by decide, by decide⟩
 ·exact ⟨4, by decide, by decide⟩
 ·exact ⟨8, by decide, by decide⟩
 ·exact ⟨16, by decide, by decide⟩
theorem cnt_snoc (l : List Int) (a n b : Int) : cnt (l ++ [a]) n b = cnt l n b + if Hk.bkx a n = b then 1 else 0 := by
 unfold cnt
 rw [List.countP_append, List.countP_cons, List.countP_nil]
 by_cases h : Hk.bkx a n = b
 ·rw [if_pos h, decide_eq_true h]; simp
 ·rw [if_neg h, decide_eq_false h]; simp
theorem rd_cnts (l : List Int) (n : Nat) {p : Nat} (hp : p < n) : rd (cnts l n n) (p : Int) = cnt l n p := by
 unfold rd
 rw [Int.toNat_natCast]
 exact cnts_get l n hp
theorem one_l {l : List Int} (hl : l.length ≤ 60) (a : Int) {n : Nat} (hn16 : n ≤ 16) (j : Nat) : ∀ (p K : Nat), p + j = n → j + 1 ≤ K → footwaylaw07_HashOne.l0 K (Hk.bkx a n) (cnts l n n) (cnts (l ++ [a]) n n) (n : Int) (p : Int) = some true := by
 induction j with
 | zero =>
  intro p K hp hK
  obtain ⟨k, rfl⟩ : ∃ k, K = k + 1 := ⟨K - 1, by omega⟩
  rw [footwaylaw07_HashOne.l0, if_neg (by omega)]
 | succ j ih =>
  intro p K hp hK
  obtain ⟨k, rfl⟩ : ∃ k, K = k + 1 := ⟨K - 1, by omega⟩
  have e1 := rd_cnts l n (p := p) (by omega)
  have e2 := rd_cnts (l ++ [a]) n (p := p) (by omega)
  have e3 := cnt_snoc l a n p
  have hc0 := cnt_nonneg l n p
  have hc1 := cnt_le l n p
  have hi := ih (p + 1) k (by omega) (by omega)
  have hlt : (p : Int) < (n : Int) := by omega
  have h0 : (0 : Int) ≤ (p : Int) := by omega
  have l1 : (p : Int) < ((cnts (l ++ [a]) n n).length : Int) := by rw [cnts_length]; exact hlt
  have l2 : (p : Int) < ((cnts l n n).length : Int) := by rw [cnts_length]; exact hlt
  have hw : wrap64 ((p : Int) + 1) = ((p + 1 : Nat) : Int) := w1 (by omega)
  by_cases hb : Hk.bkx a n = (p : Int)
  ·rw [if_pos hb] at e3
   rw [footwaylaw07_HashOne.l0, if_pos hlt, if_pos hb.symm, if_pos h0, if_pos l1, if_pos l2, e1, e2, e3, hw, hi]
   clear e1 e2 e3 hi ih
   generalize cnt l n p = c at *
   rw [show wrap64 (c + 1) = c + 1 by unfold wrap64; omega, if_pos rfl]
  ·rw [if_neg hb, Int.add_zero] at e3
   rw [footwaylaw07_HashOne.l0, if_pos hlt, if_neg (fun h => hb h.symm), if_pos h0, if_pos l1, if_pos l2, e1, e2, e3, hw, hi, if_pos rfl]
theorem one_bad (K : Nat) (hK : 60 ≤ K) (n b : Int) (w : List Int) : footwaylaw07_HashOne.j0 K n b w [] 1 true = some true := by
 obtain ⟨k, rfl⟩ : ∃ k, K = k + 1 := ⟨K - 1, by omega⟩
 rw [footwaylaw07_HashOne.j0, if_pos rfl, alive_yes k (by omega), Option.bind_some, if_pos rfl, if_pos rfl]
 simp
theorem one_ok {l : List Int} (hl : l.length ≤ 60) (a : Int) {n : Nat} (hn : (n : Int) = 1 ∨ (n : Int) = 2 ∨ (n : Int) = 4 ∨ (n : Int) = 8 ∨ (n : Int) = 16) (K : Nat) (hK : 100 ≤ K) :
  footwaylaw07_HashOne.j0 K n (Hk.bkx a n) (cnts l n n) (cnts (l ++ [a]) n n) 0 false = some true := by
 obtain ⟨k, rfl⟩ : ∃ k, K = k + 1 := ⟨K - 1, by omega⟩
 obtain ⟨k2, rfl⟩ : ∃ k2, k = k2 + 1 := ⟨k - 1, by omega⟩
 obtain ⟨hb0, hb1⟩ := bkx_lt a hn
 have h1 : ((cnts l n n).length : Int) = n := by rw [cnts_length]
 have h2 : ((cnts (l ++ [a]) n n).length : Int) = n := by rw [cnts_length]
 have hl0 := one_l hl a (n := n) (by omega) n 0 k2 (by omega) (by omega)
 rw [footwaylaw07_HashOne.j0, if_neg (by decide), if_pos rfl, if_pos h1, if_pos h2, if_neg (show ¬ Hk.bkx a n < 0 by omega), if_neg (show ¬ Hk.bkx a n ≥ (n : Int) by omega), alive_yes (k2 + 1) (by omega), Option.bind_some, footwaylaw07_HashOne.j1, if_neg (by decide), h2]
 exact hl0
theorem one_all {l0 : List Int} (hl : l0.length ≤ 1000000000000000) (a k2 : Int) (K : Nat) (hK : 200 ≤ K) : footwaylaw07_HashOne.f K l0 a k2 = some true := by
 obtain ⟨e0, e1⟩ := tmod_small k2 (m := 5) (by decide) (by decide)
 obtain ⟨n, hn, hn'⟩ := shl_one e0 e1
 have ht : (l0.take 60).length ≤ 60 := by rw [List.length_take]; omega
 unfold footwaylaw07_HashOne.f
 rw [if_pos e0, hn, few_eq l0 hl, Option.bind_some]
 generalize l0.take 60 = l at ht
 have hnb := (numB_iff n).2 hn'
 have la : (l ++ [a]).length ≤ 1000 := by rw [List.length_append, List.length_singleton]; omega
 have key : ∀ (b e : Int) (w : List Int) (g : Int) (w2 : List Int) (g2 : Int), hash_Bucket.f K a n = some (b, e) → hash_Spread.f l n = some (w, g) → hash_Spread.f (l ++ [a]) n = some (w2, g2) →
   (if e = 0 then footwaylaw07_HashOne.j0 K n b w w2 g2 (g != 0) else footwaylaw07_HashOne.j0 K n b w w2 g2 true) = some true →
   ((hash_Bucket.f K a n).bind fun bt236 => ((hash_Spread.f l n).bind fun bt238 => ((some (([] : List Int) : List Int)).bind fun y242 => (if y242.length + l.length < 17592186044416 then ((some (y242 ++ l : List Int)).bind fun y245 => (if y245.length < 17592186044416 then ((hash_Spread.f (y245 ++ [a]) n).bind fun bt251 => (if bt236.2 = 0 then (footwaylaw07_HashOne.j0 K n bt236.1 bt238.1 bt251.1 bt251.2 (bt238.2 != 0)) else (footwaylaw07_HashOne.j0 K n bt236.1 bt238.1 bt251.1 bt251.2 true))) else (none))) else (none))))) = some true := by
  intro b e w g w2 g2 hb hs hs2 h
  rw [hb, Option.bind_some, hs, Option.bind_some, Option.bind_some, if_pos (by rw [List.length_nil]; omega), Option.bind_some, List.nil_append, if_pos (by omega), hs2, Option.bind_some]
  exact h
 cases ha : Hk.rightB a with
 | false =>
  have hall : (l ++ [a]).all Hk.rightB = false := by rw [List.all_append, List.all_cons, ha]; simp
  cases hr : l.all Hk.rightB with
  | true => exact key _ _ _ _ _ _ (hBucket_bad K ha hnb) (sprOk (by omega) hr hn') (sprBad la hall hnb) (by rw [if_neg (by decide)]; exact one_bad K (by omega) _ _ _)
  | false => exact key _ _ _ _ _ _ (hBucket_bad K ha hnb) (sprBad (by omega) hr hnb) (sprBad la hall hnb) (by rw [if_neg (by decide)]; exact one_bad K (by omega) _ _ _)
 | true =>
  have hb : hash_Bucket.f K a n = some (Hk.bkx a n, 0) := by
   obtain ⟨k7, rfl⟩ : ∃ k7, K = k7 + 7 := ⟨K - 7, by omega⟩
   exact hBucket k7 ha hnb
  cases hr : l.all Hk.rightB with
  | true =>
   have hall : (l ++ [a]).all Hk.rightB = true := by rw [List.all_append, hr, List.all_cons, ha]; simp
   exact key _ _ _ _ _ _ hb (sprOk (by omega) hr hn') (sprOk la hall hn') (by rw [if_pos rfl]; exact one_ok ht a hn' K (by omega))
  | false =>
   have hall : (l ++ [a]).all Hk.rightB = false := by rw [List.all_append, hr]; simp
   exact key _ _ _ _ _ _ hb (sprBad (by omega) hr hnb) (sprBad la hall hnb) (by rw [if_pos rfl]; exact one_bad K (by omega) _ _ _)
theorem HashOne : footwaylaw07_HashOne.Pure := by
 intro l0 a1 a2 _ h _ _ _
 exact ⟨200, one_all (by omega) a1 a2 200 (by omega)⟩
end Go.Proofs.Ytnikfjfcbpeieaa.Pure
end
