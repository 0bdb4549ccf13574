/- HashTells: whatever the input, the law answers true (in plain numbers). -/
import Derived.Test.YtnikfjfcbpeieaaMK0
import Derived.Test.YtnikfjfcbpeieaaMT1
import Derived.Test.YtnikfjfcbpeieaaMT2
import Derived.Test.YtnikfjfcbpeieaaMK2
import Derived.Test.YtnikfjfcbpeieaaMV
section
namespace Go.Proofs.Ytnikfjfcbpeieaa.PHp
open Go.RowKit Go.Proofs.Ytnikfjfcbpeieaa.EHa Go.Proofs.YtnikfjfcbpeieaaW.PrintWords Go.Proofs.YtnikfjfcbpeieaaW.PrintLast Go.Proofs.YtnikfjfcbpeieaaW.PrintMore
attribute [local go_sem] max2_int min2_int max_two min_two max_three min_three max_four min_four   -- for this text's walks alone
set_option linter.unusedVariables false
set_option linter.unusedSimpArgs false
mutual
def footwaylaw07_HashTells.j0 : Nat → Int → Int → List Int → Int → Int → List Int → Int → Int → Int → Option (Bool)
 | 0, _, _, _, _, _, _, _, _, _ => none
 | k + 1, x0, x1, x2, x9, x10, x11, x12, x13, x14 => (footwayref07_Number.f x1).bind fun t157 => (if t157 = true then ((footwayref01_Right.f x0).bind fun t159 => (if t159 = true then (if x10 = 0 then ((footwayref07_Bucket.f k x0 x1).bind fun t160 => (if x9 = t160 then (footwaylaw07_HashTells.j1 k x1 x2 x11 x12 x13 x14) else (some false))) else (some false)) else (if x10 = 1 then (if x9 = 0 then (footwaylaw07_HashTells.j1 k x1 x2 x11 x12 x13 x14) else (some false)) else (some false)))) else ((footwaylaw07_alive.f k).bind fun t158 => (if t158 = true then (if x10 = 2 then (if x12 = 2 then (if x14 = 2 then (if x9 = 0 then (if (x11.length : Int) = 0 then (some (x13 == 0)) else (some false)) else (some false)) else (some false)) else (some false)) else (some false)) else (some false))))
def footwaylaw07_HashTells.j1 : Nat → Int → List Int → List Int → Int → Int → Int → Option (Bool)
 | 0, _, _, _, _, _, _ => none
 | k + 1, x1, x2, x11, x12, x13, x14 => (footwayref07_All.f k x2).bind fun t161 => (if t161 = true then ((footwayref07_Spread.f k x2 x1).bind fun t163 => (footwaylaw07_HashTells.l0 k x11 x12 x13 x14 t163 0 t163 (t163.length : Int) 0)) else ((footwaylaw07_alive.f k).bind fun t162 => (if t162 = true then (if x12 = 1 then (if x14 = 1 then (if (x11.length : Int) = 0 then (some (x13 == 0)) else (some false)) else (some false)) else (some false)) else (some false))))
def footwaylaw07_HashTells.l0 : Nat → List Int → Int → Int → Int → List Int → Int → List Int → Int → Int → Option (Bool)
 | 0, _, _, _, _, _, _, _, _, _ => none
 | k + 1, x11, x12, x13, x14, x15, x16, x132, x133, x134 => if x134 < x133 then (if 0 ≤ x134 then (if x134 < (x132.length : Int) then (footwaylaw07_HashTells.l0 k x11 x12 x13 x14 x15 (mx x16 (rd x132 x134)) x132 x133 (wrap64 (x134 + 1))) else (none)) else (none)) else ((footwaylaw07_alive.f k).bind fun t167 => (if t167 = true then (if x12 = 0 then (if x14 = 0 then ((footwayref06_Same.f k x11 x15).bind fun t168 => (if t168 = true then (some (x13 == x16)) else (some false))) else (some false)) else (some false)) else (some false)))
end
def footwaylaw07_HashTells.f (k : Nat) (a0 : Int) (a1 : Int) (l2 : List Int) : Option (Bool) := (footwaylaw07_few.f l2).bind fun t142 => ((hash_Sum.f k a0).bind fun bt145 => ((hash_Bucket.f k a0 a1).bind fun bt147 => ((hash_Spread.f t142 a1).bind fun bt149 => ((hash_Crowd.f t142 a1).bind fun bt153 => ((footwayref01_Right.f a0).bind fun t155 => (if t155 = true then (if bt145.2 = 0 then ((footwayref07_Sum.f k a0).bind fun t156 => (if bt145.1 = t156 then (footwaylaw07_HashTells.j0 k a0 a1 t142 bt147.1 bt147.2 bt149.1 bt149.2 bt153.1 bt153.2) else (some false))) else (some false)) else (if bt145.2 = 1 then (if bt145.1 = 0 then (footwaylaw07_HashTells.j0 k a0 a1 t142 bt147.1 bt147.2 bt149.1 bt149.2 bt153.1 bt153.2) else (some false)) else (some false))))))))
set_option maxHeartbeats 8000000 in
set_option maxRecDepth 100000 in
theorem footwaylaw07_HashTells.calls (k : Nat) (a0 : Int) (a1 : Int) (A2 : Option Addr) (c2 : Nat) (l2 : List Int) (r : Bool) (w : World) (hr2 : Kd.C (Kd.int .i64) w A2 l2.length l2) (hc2 : l2.length ≤ c2) (h : footwaylaw07_HashTells.f k a0 a1 l2 = some r) :
  Calls Th.prog 11 #[.int .i64 a0, .int .i64 a1, .slice A2 l2.length c2] w fun e w' => e = .returned (.bool r) ∧ Below w.heap.size w w' := by
 have HR2 := Aside0.mk hr2
 have HC2 := Aside0.mk hc2
 clear hr2 hc2
 have HB := Aside0.mk (Below.refl w.heap.size w)
 have H : ((footwaylaw07_few.f l2).bind fun t142 => ((hash_Sum.f k a0).bind fun bt145 => ((hash_Bucket.f k a0 a1).bind fun bt147 => ((hash_Spread.f t142 a1).bind fun bt149 => ((hash_Crowd.f t142 a1).bind fun bt153 => ((footwayref01_Right.f a0).bind fun t155 => (if t155 = true then (if bt145.2 = 0 then ((footwayref07_Sum.f k a0).bind fun t156 => (if bt145.1 = t156 then (footwaylaw07_HashTells.j0 k a0 a1 t142 bt147.1 bt147.2 bt149.1 bt149.2 bt153.1 bt153.2) else (some false))) else (some false)) else (if bt145.2 = 1 then (if bt145.1 = 0 then (footwaylaw07_HashTells.j0 k a0 a1 t142 bt147.1 bt147.2 bt149.1 bt149.2 bt153.1 bt153.2) else (some false)) else (some false))))))))) = some r := h
 clear h
 replace H := Option.bind_eq_some_iff.mp H
 obtain ⟨t142, A40, H⟩ := H
 replace H : ((hash_Sum.f k a0).bind fun bt145 => ((hash_Bucket.f k a0 a1).bind fun bt147 => ((hash_Spread.f t142 a1).bind fun bt149 => ((hash_Crowd.f t142 a1).bind fun bt153 => ((footwayref01_Right.f a0).bind fun t155 => (if t155 = true then (if bt145.2 = 0 then ((footwayref07_Sum.f k a0).bind fun t156 => (if bt145.1 = t156 then (footwaylaw07_HashTells.j0 k a0 a1 t142 bt147.1 bt147.2 bt149.1 bt149.2 bt153.1 bt153.2) else (some false))) else (some false)) else (if bt145.2 = 1 then (if bt145.1 = 0 then (footwaylaw07_HashTells.j0 k a0 a1 t142 bt147.1 bt147.2 bt149.1 bt149.2 bt153.1 bt153.2) else (some false)) else (some false)))))))) = some r := H
 have A4 := Aside0.mk A40
 clear A40
 replace H := Option.bind_eq_some_iff.mp H
 obtain ⟨⟨t145, t146⟩, A50, H⟩ := H
 replace H : ((hash_Bucket.f k a0 a1).bind fun bt147 => ((hash_Spread.f t142 a1).bind fun bt149 => ((hash_Crowd.f t142 a1).bind fun bt153 => ((footwayref01_Right.f a0).bind fun t155 => (if t155 = true then (if t146 = 0 then ((footwayref07_Sum.f k a0).bind fun t156 => (if t145 = t156 then (footwaylaw07_HashTells.j0 k a0 a1 t142 bt147.1 bt147.2 bt149.1 bt149.2 bt153.1 bt153.2) else (some false))) else (some false)) else (if t146 = 1 then (if t145 = 0 then (footwaylaw07_HashTells.j0 k a0 a1 t142 bt147.1 bt147.2 bt149.1 bt149.2 bt153.1 bt153.2) else (some false)) else (some false))))))) = some r := H
 have A5 := Aside0.mk A50
 clear A50
 replace H := Option.bind_eq_some_iff.mp H
 obtain ⟨⟨t147, t148⟩, A60, H⟩ := H
 replace H : ((hash_Spread.f t142 a1).bind fun bt149 => ((hash_Crowd.f t142 a1).bind fun bt153 => ((footwayref01_Right.f a0).bind fun t155 => (if t155 = true then (if t146 = 0 then ((footwayref07_Sum.f k a0).bind fun t156 => (if t145 = t156 then (footwaylaw07_HashTells.j0 k a0 a1 t142 t147 t148 bt149.1 bt149.2 bt153.1 bt153.2) else (some false))) else (some false)) else (if t146 = 1 then (if t145 = 0 then (footwaylaw07_HashTells.j0 k a0 a1 t142 t147 t148 bt149.1 bt149.2 bt153.1 bt153.2) else (some false)) else (some false)))))) = some r := H
 have A6 := Aside0.mk A60
 clear A60
 replace H := Option.bind_eq_some_iff.mp H
 obtain ⟨⟨t149, t150⟩, A70, H⟩ := H
 replace H : ((hash_Crowd.f t142 a1).bind fun bt153 => ((footwayref01_Right.f a0).bind fun t155 => (if t155 = true then (if t146 = 0 then ((footwayref07_Sum.f k a0).bind fun t156 => (if t145 = t156 then (footwaylaw07_HashTells.j0 k a0 a1 t142 t147 t148 t149 t150 bt153.1 bt153.2) else (some false))) else (some false)) else (if t146 = 1 then (if t145 = 0 then (footwaylaw07_HashTells.j0 k a0 a1 t142 t147 t148 t149 t150 bt153.1 bt153.2) else (some false)) else (some false))))) = some r := H
 have A7 := Aside0.mk A70
 clear A70
 replace H := Option.bind_eq_some_iff.mp H
 obtain ⟨⟨t153, t154⟩, A80, H⟩ := H
 replace H : ((footwayref01_Right.f a0).bind fun t155 => (if t155 = true then (if t146 = 0 then ((footwayref07_Sum.f k a0).bind fun t156 => (if t145 = t156 then (footwaylaw07_HashTells.j0 k a0 a1 t142 t147 t148 t149 t150 t153 t154) else (some false))) else (some false)) else (if t146 = 1 then (if t145 = 0 then (footwaylaw07_HashTells.j0 k a0 a1 t142 t147 t148 t149 t150 t153 t154) else (some false)) else (some false)))) = some r := H
 have A8 := Aside0.mk A80
 clear A80
 replace H := Option.bind_eq_some_iff.mp H
 obtain ⟨t155, A90, H⟩ := H
 replace H : (if t155 = true then (if t146 = 0 then ((footwayref07_Sum.f k a0).bind fun t156 => (if t145 = t156 then (footwaylaw07_HashTells.j0 k a0 a1 t142 t147 t148 t149 t150 t153 t154) else (some false))) else (some false)) else (if t146 = 1 then (if t145 = 0 then (footwaylaw07_HashTells.j0 k a0 a1 t142 t147 t148 t149 t150 t153 t154) else (some false)) else (some false))) = some r := H
 have A9 := Aside0.mk A90
 clear A90
 have HC10 := Aside0.mk H
 clear H
 go_enter Th.func11, Try.ntmps11
 go_upto_if 46 with (first | ((with_reducible refine gate_callee (f := 42) rfl ?_); refine goesL_ (some 20) rfl rfl Th.func42 (by kernel_rfl) rfl #[.slice A2 l2.length c2] rfl (by (try simp only [List.map_toArray, List.map_cons, List.map_nil]); first | done | rfl | (simp only [List.length_drop, List.length_take]; rfl)) ?_; (with_reducible refine (footwaylaw07_few.calls (fun k_ => k_ < w.heap.size) _ _ l2 t142 _ ?side1 A4.out).mono ?_); (case side1 => exact Kd.V_mk HC2.out (Kd.F_below (Kd.C_F (Kd.heap_int .i64) HR2.out) (by repeat (first | (with_reducible first | exact HB.out | apply below_alloc | apply pw_below_drewN | apply below_drew1) | exact HB.out)))); rintro e w11 ⟨v143, rfl, ho0, hb⟩; refine ⟨_, rfl, ?_⟩; have n0_ := Aside0.mk (Kd.V_lower (Kd.V_mono (ok' := fun k_ => True) ho0 (fun k_ hk_ => trivial)) (below_size (by repeat (first | (with_reducible first | exact HB.out | apply below_alloc | apply pw_below_drewN | apply below_drew1) | exact HB.out)))); have n1_ := Aside0.mk (below_step (by repeat (first | (with_reducible first | exact HB.out | apply below_alloc | apply pw_below_drewN | apply below_drew1) | exact HB.out)) hb); clear HB; have HO144 := n0_; have HB := n1_; clear n0_ n1_; (try clear hb); (try clear hb2); (try clear hk); (try clear hi); (try clear ho0)) | ((with_reducible refine gate_callee (f := 43) rfl ?_); refine goesL_ (some 23) rfl rfl Th.func43 (by kernel_rfl) rfl #[.int .i64 a0] rfl (by (try simp only [List.map_toArray, List.map_cons, List.map_nil]); first | done | rfl | (simp only [List.length_drop, List.length_take]; rfl)) ?_; (with_reducible refine (hash_Sum.calls k a0 t145 t146 _ A5.out).mono ?_); rintro e w12 ⟨rfl, hb⟩; refine ⟨_, rfl, ?_⟩; have n0_ := Aside0.mk (Kd.V_below (by (with_reducible repeat (first | apply Kd.V_alloc | apply Kd.V_drewN | apply Kd.V_drew)); exact HO144.out) hb); have n1_ := Aside0.mk (below_step (by repeat (first | (with_reducible first | exact HB.out | apply below_alloc | apply pw_below_drewN | apply below_drew1) | exact HB.out)) hb); clear HO144; clear HB; have HO144 := n0_; have HB := n1_; clear n0_ n1_; (try clear hb); (try clear hb2); (try clear hk); (try clear hi)) | ((with_reducible refine gate_callee (f := 44) rfl ?_); refine goesL_ (some 29) rfl rfl Th.func44 (by kernel_rfl) rfl #[.int .i64 a0, .int .i64 a1] rfl (by (try simp only [List.map_toArray, List.map_cons, List.map_nil]); first | done | rfl | (simp only [List.length_drop, List.length_take]; rfl)) ?_; (with_reducible refine (hash_Bucket.calls k a0 a1 t147 t148 _ A6.out).mono ?_); rintro e w13 ⟨rfl, hb⟩; refine ⟨_, rfl, ?_⟩; have n0_ := Aside0.mk (Kd.V_below (by (with_reducible repeat (first | apply Kd.V_alloc | apply Kd.V_drewN | apply Kd.V_drew)); exact HO144.out) hb); have n1_ := Aside0.mk (below_step (by repeat (first | (with_reducible first | exact HB.out | apply below_alloc | apply pw_below_drewN | apply below_drew1) | exact HB.out)) hb); clear HO144; clear HB; have HO144 := n0_; have HB := n1_; clear n0_ n1_; (try clear hb); (try clear hb2); (try clear hk); (try clear hi); obtain ⟨Ao14, co14, eo14⟩ := Kd.V_slice HO144.out; subst eo14) | ((with_reducible refine gate_callee (f := 45) rfl ?_); refine goesL_ (some 35) rfl rfl Th.func45 (by kernel_rfl) rfl #[.slice Ao14 t142.length co14, .int .i64 a1] rfl (by (try simp only [List.map_toArray, List.map_cons, List.map_nil]); first | done | rfl | (simp only [List.length_drop, List.length_take]; rfl)) ?_; (with_reducible refine (hash_Spread.calls _ _ t142 a1 t149 t150 _ ?side1 ?side2 A7.out).mono ?_); (case side1 => repeat (first | exact (Kd.V_reads' HO144.out).2.2 | (with_reducible refine Kd.C_alloc ?_ _) | (with_reducible refine Kd.C_drewN ?_ _) | (with_reducible refine Kd.C_drew ?_))); (case side2 => exact (Kd.V_reads' HO144.out).2.1); rintro e w15 ⟨v151, rfl, ho0, hb⟩; refine ⟨_, rfl, ?_⟩; have n0_ := Aside0.mk (Kd.V_elder' (by (with_reducible repeat (first | apply Kd.V_alloc | apply Kd.V_drewN | apply Kd.V_drew)); exact HO144.out) (Kd.R_base ho0) hb); have n1_ := Aside0.mk (Kd.R_lower ho0 (below_size (by repeat (first | (with_reducible first | exact HB.out | apply below_alloc | apply pw_below_drewN | apply below_drew1) | exact HB.out)))); have n2_ := Aside0.mk (below_step (by repeat (first | (with_reducible first | exact HB.out | apply below_alloc | apply pw_below_drewN | apply below_drew1) | exact HB.out)) hb); clear HO144; clear HB; have HO144 := n0_; have HO152 := n1_; have HB := n2_; clear n0_ n1_ n2_; (try clear hb); (try clear hb2); (try clear hk); (try clear hi); (try clear ho0)) | ((with_reducible refine gate_callee (f := 46) rfl ?_); refine goesL_ (some 41) rfl rfl Th.func46 (by kernel_rfl) rfl #[.slice Ao14 t142.length co14, .int .i64 a1] rfl (by (try simp only [List.map_toArray, List.map_cons, List.map_nil]); first | done | rfl | (simp only [List.length_drop, List.length_take]; rfl)) ?_; (with_reducible refine (hash_Crowd.calls _ _ t142 a1 t153 t154 _ ?side1 ?side2 A8.out).mono ?_); (case side1 => repeat (first | exact (Kd.V_reads' HO144.out).2.2 | (with_reducible refine Kd.C_alloc ?_ _) | (with_reducible refine Kd.C_drewN ?_ _) | (with_reducible refine Kd.C_drew ?_))); (case side2 => exact (Kd.V_reads' HO144.out).2.1); rintro e w16 ⟨rfl, hb⟩; refine ⟨_, rfl, ?_⟩; have n0_ := Aside0.mk (Kd.V_below (by (with_reducible repeat (first | apply Kd.V_alloc | apply Kd.V_drewN | apply Kd.V_drew)); exact HO144.out) hb); have n1_ := Aside0.mk (Kd.R_below (by (with_reducible repeat (first | apply Kd.R_alloc | apply Kd.R_drewN | apply Kd.R_drew)); exact HO152.out) hb); have n2_ := Aside0.mk (below_step (by repeat (first | (with_reducible first | exact HB.out | apply below_alloc | apply pw_below_drewN | apply below_drew1) | exact HB.out)) hb); clear HO144; clear HO152; clear HB; have HO144 := n0_; have HO152 := n1_; have HB := n2_; clear n0_ n1_ n2_; (try clear hb); (try clear hb2); (try clear hk); (try clear hi)) | ((with_reducible refine gate_callee (f := 36) rfl ?_); refine goesL_ (some 45) rfl rfl Th.func36 (by kernel_rfl) rfl #[.int .i64 a0] rfl (by (try simp only [List.map_toArray, List.map_cons, List.map_nil]); first | done | rfl | (simp only [List.length_drop, List.length_take]; rfl)) ?_; (with_reducible refine (footwayref01_Right.calls a0 t155 _ A9.out).mono ?_); rintro e w' ⟨rfl, ⟨nd, rfl⟩⟩; refine ⟨_, rfl, ?_⟩))
 (try simp only [Act.put, List.setIfInBounds_toArray, List.set_cons_zero, List.set_cons_succ])
 go_cut [] (fun wc => ∃ (kq : Nat), Aside0 (footwaylaw07_HashTells.j0 kq a0 a1 t142 t147 t148 t149 t150 t153 t154 = some r) ∧ Aside0 (kq ≤ k) ∧ Aside0 (Kd.V (Kd.int .i64) 3 wc w.heap.size (fun k_ => some k_ ≠ (v151 : Value).ownBlock) (.slice Ao14 t142.length co14) t142) ∧ Aside0 (Kd.R (Kd.int .i64) 3 wc w.heap.size (fun _ => True) v151 t149) ∧ Aside0 (Below w.heap.size w wc))
 case first =>
  have H := HC10.out
  clear HC10
  by_cases c17 : t155 = true
  ·subst c17
   have H1 : (if t146 = 0 then ((footwayref07_Sum.f k a0).bind fun t156 => (if t145 = t156 then (footwaylaw07_HashTells.j0 k a0 a1 t142 t147 t148 t149 t150 t153 t154) else (some false))) else (some false)) = some r := by rw [if_pos rfl] at H; exact H
   clear H
   have H := H1
   clear H1
   by_cases c18 : t146 = 0
   ·rw [if_pos c18] at H
    have c18b0 : (t146 == 0) = true := beq_iff_eq.mpr c18
    have c18b1 : (t146 != 0) = false := bne_eq_false_iff_eq.mpr c18
    clear c18
    (first | rw [c18b0] | (simp only [i64_w, i32_w]; rw [c18b0]) | skip)
    replace H := Option.bind_eq_some_iff.mp H
    obtain ⟨t156, A190, H⟩ := H
    replace H : (if t145 = t156 then (footwaylaw07_HashTells.j0 k a0 a1 t142 t147 t148 t149 t150 t153 t154) else (some false)) = some r := H
    have A19 := Aside0.mk A190
    clear A190
    by_cases c20 : t145 = t156
    ·rw [if_pos c20] at H
     have c20b0 : (t145 == t156) = true := beq_iff_eq.mpr c20
     have c20b1 : (t145 != t156) = false := bne_eq_false_iff_eq.mpr c20
     clear c20
     have H' := Aside0.mk H
     clear H
     go_wp2_with (first | (go_at_call 47; (with_reducible refine (footwayref07_Sum.calls k a0 t156 _ A19.out).mono ?_); rintro e w21 ⟨rfl, hb⟩; have n0_ := Aside0.mk (Kd.V_below (by (with_reducible repeat (first | apply Kd.V_alloc | apply Kd.V_drewN | apply Kd.V_drew)); exact HO144.out) hb); have n1_ := Aside0.mk (Kd.R_below (by (with_reducible repeat (first | apply Kd.R_alloc | apply Kd.R_drewN | apply Kd.R_drew)); exact HO152.out) hb); have n2_ := Aside0.mk (below_step (by repeat (first | (with_reducible first | exact HB.out | apply below_alloc | apply pw_below_drewN | apply below_drew1) | exact HB.out)) hb); clear HO144; clear HO152; clear HB; have HO144 := n0_; have HO152 := n1_; have HB := n2_; clear n0_ n1_ n2_; (try clear hb); (try clear hb2); (try clear hk); (try clear hi)))
     go_meet
     case rel => exact ⟨_, H', ⟨by first | omega | exact Nat.le_refl _⟩, ⟨by (with_reducible repeat (first | apply Kd.V_alloc | apply Kd.V_drewN | apply Kd.V_drew)); exact Kd.V_mono HO144.out (fun _ hk => hk.2)⟩, ⟨by (with_reducible repeat (first | apply Kd.R_alloc | apply Kd.R_drewN | apply Kd.R_drew)); exact HO152.out⟩, ⟨by repeat (first | (with_reducible first | exact HB.out | apply below_alloc | apply pw_below_drewN | apply below_drew1) | exact HB.out)⟩⟩
    ·rw [if_neg c20] at H
     have c20b0 : (t145 == t156) = false := beq_eq_false_iff_ne.mpr c20
     have c20b1 : (t145 != t156) = true := bne_iff_ne.mpr c20
     obtain rfl := Option.some.inj H
     go_wp2_with (first | (go_at_call 47; (with_reducible refine (footwayref07_Sum.calls k a0 t156 _ A19.out).mono ?_); rintro e w22 ⟨rfl, hb⟩; have n0_ := Aside0.mk (Kd.V_below (by (with_reducible repeat (first | apply Kd.V_alloc | apply Kd.V_drewN | apply Kd.V_drew)); exact HO144.out) hb); have n1_ := Aside0.mk (Kd.R_below (by (with_reducible repeat (first | apply Kd.R_alloc | apply Kd.R_drewN | apply Kd.R_drew)); exact HO152.out) hb); have n2_ := Aside0.mk (below_step (by repeat (first | (with_reducible first | exact HB.out | apply below_alloc | apply pw_below_drewN | apply below_drew1) | exact HB.out)) hb); clear HO144; clear HO152; clear HB; have HO144 := n0_; have HO152 := n1_; have HB := n2_; clear n0_ n1_ n2_; (try clear hb); (try clear hb2); (try clear hk); (try clear hi)))
     go_ret
     exact ⟨by first | rfl | (simp [errW_none, errW_some] <;> rfl) | (simp [*, errW_none, errW_some] <;> rfl), by repeat (first | (with_reducible first | exact HB.out | apply below_alloc | apply pw_below_drewN | apply below_drew1) | exact HB.out)⟩
   ·rw [if_neg c18] at H
    have c18b0 : (t146 == 0) = false := beq_eq_false_iff_ne.mpr c18
    have c18b1 : (t146 != 0) = true := bne_iff_ne.mpr c18
    (first | rw [c18b0] | (simp only [i64_w, i32_w]; rw [c18b0]) | skip)
    obtain rfl := Option.some.inj H
    go_wp2
    go_ret
    exact ⟨by first | rfl | (simp [errW_none, errW_some] <;> rfl) | (simp [*, errW_none, errW_some] <;> rfl), by repeat (first | (with_reducible first | exact HB.out | apply below_alloc | apply pw_below_drewN | apply below_drew1) | exact HB.out)⟩
  ·replace c17 := Bool.eq_false_iff.mpr c17
   subst c17
   have H1 : (if t146 = 1 then (if t145 = 0 then (footwaylaw07_HashTells.j0 k a0 a1 t142 t147 t148 t149 t150 t153 t154) else (some false)) else (some false)) = some r := by rw [if_neg (show ¬ (false = true) by decide)] at H; exact H
   clear H
   have H := H1
   clear H1
   by_cases c23 : t146 = 1
   ·rw [if_pos c23] at H
    have c23b0 : (t146 == 1) = true := beq_iff_eq.mpr c23
    have c23b1 : (t146 != 1) = false := bne_eq_false_iff_eq.mpr c23
    clear c23
    by_cases c24 : t145 = 0
    ·rw [if_pos c24] at H
     have c24b0 : (t145 == 0) = true := beq_iff_eq.mpr c24
     have c24b1 : (t145 != 0) = false := bne_eq_false_iff_eq.mpr c24
     clear c24
     have H' := Aside0.mk H
     clear H
     go_wp2
     go_meet
     case rel => exact ⟨_, H', ⟨by first | omega | exact Nat.le_refl _⟩, ⟨by (with_reducible repeat (first | apply Kd.V_alloc | apply Kd.V_drewN | apply Kd.V_drew)); exact Kd.V_mono HO144.out (fun _ hk => hk.2)⟩, ⟨by (with_reducible repeat (first | apply Kd.R_alloc | apply Kd.R_drewN | apply Kd.R_drew)); exact HO152.out⟩, ⟨by repeat (first | (with_reducible first | exact HB.out | apply below_alloc | apply pw_below_drewN | apply below_drew1) | exact HB.out)⟩⟩
    ·rw [if_neg c24] at H
     have c24b0 : (t145 == 0) = false := beq_eq_false_iff_ne.mpr c24
     have c24b1 : (t145 != 0) = true := bne_iff_ne.mpr c24
     obtain rfl := Option.some.inj H
     go_wp2
     go_ret
     exact ⟨by first | rfl | (simp [errW_none, errW_some] <;> rfl) | (simp [*, errW_none, errW_some] <;> rfl), by repeat (first | (with_reducible first | exact HB.out | apply below_alloc | apply pw_below_drewN | apply below_drew1) | exact HB.out)⟩
   ·rw [if_neg c23] at H
    have c23b0 : (t146 == 1) = false := beq_eq_false_iff_ne.mpr c23
    have c23b1 : (t146 != 1) = true := bne_iff_ne.mpr c23
    obtain rfl := Option.some.inj H
    go_wp2
    go_ret
    exact ⟨by first | rfl | (simp [errW_none, errW_some] <;> rfl) | (simp [*, errW_none, errW_some] <;> rfl), by repeat (first | (with_reducible first | exact HB.out | apply below_alloc | apply pw_below_drewN | apply below_drew1) | exact HB.out)⟩
 case rest =>
  clear HC10
  try clear c1
  try clear c2
  try clear p2
  try clear c3
  try clear c4
  try clear c11
  try clear c17
  try clear c18
  try clear c18b0
  try clear c18b1
  try clear c20
  try clear c20b0
  try clear c20b1
  try clear c23
  try clear c23b0
  try clear c23b1
  try clear c24
  try clear c24b0
  try clear c24b1
  obtain ⟨kq, HA, HJ9, HO_2, HO_11, HB⟩ := hcut
  cases kq with
  | zero => exact absurd HA.out (by simp [footwaylaw07_HashTells.j0])
  | succ kj9 =>
   have H := HA.out
   clear HA
   simp only [footwaylaw07_HashTells.j0] at H
   replace H := Option.bind_eq_some_iff.mp H
   obtain ⟨t157, A250, H⟩ := H
   replace H : (if t157 = true then ((footwayref01_Right.f a0).bind fun t159 => (if t159 = true then (if t148 = 0 then ((footwayref07_Bucket.f kj9 a0 a1).bind fun t160 => (if t147 = t160 then (footwaylaw07_HashTells.j1 kj9 a1 t142 t149 t150 t153 t154) else (some false))) else (some false)) else (if t148 = 1 then (if t147 = 0 then (footwaylaw07_HashTells.j1 kj9 a1 t142 t149 t150 t153 t154) else (some false)) else (some false)))) else ((footwaylaw07_alive.f kj9).bind fun t158 => (if t158 = true then (if t148 = 2 then (if t150 = 2 then (if t154 = 2 then (if t147 = 0 then (if (t149.length : Int) = 0 then (some (t153 == 0)) else (some false)) else (some false)) else (some false)) else (some false)) else (some false)) else (some false)))) = some r := H
   have A25 := Aside0.mk A250
   clear A250
   by_cases c26 : t157 = true
   ·subst c26
    have H1 : ((footwayref01_Right.f a0).bind fun t159 => (if t159 = true then (if t148 = 0 then ((footwayref07_Bucket.f kj9 a0 a1).bind fun t160 => (if t147 = t160 then (footwaylaw07_HashTells.j1 kj9 a1 t142 t149 t150 t153 t154) else (some false))) else (some false)) else (if t148 = 1 then (if t147 = 0 then (footwaylaw07_HashTells.j1 kj9 a1 t142 t149 t150 t153 t154) else (some false)) else (some false)))) = some r := by rw [if_pos rfl] at H; exact H
    clear H
    have H := H1
    clear H1
    replace H := Option.bind_eq_some_iff.mp H
    obtain ⟨t159, A270, H⟩ := H
    replace H : (if t159 = true then (if t148 = 0 then ((footwayref07_Bucket.f kj9 a0 a1).bind fun t160 => (if t147 = t160 then (footwaylaw07_HashTells.j1 kj9 a1 t142 t149 t150 t153 t154) else (some false))) else (some false)) else (if t148 = 1 then (if t147 = 0 then (footwaylaw07_HashTells.j1 kj9 a1 t142 t149 t150 t153 t154) else (some false)) else (some false))) = some r := H
    have A27 := Aside0.mk A270
    clear A270
    have HC28 := Aside0.mk H
    clear H
    go_upto_if 92 with (first | ((with_reducible refine gate_callee (f := 48) rfl ?_); refine goesL_ (some 62) rfl rfl Th.func48 (by kernel_rfl) rfl #[.int .i64 a1] rfl (by (try simp only [List.map_toArray, List.map_cons, List.map_nil]); first | done | rfl | (simp only [List.length_drop, List.length_take]; rfl)) ?_; (with_reducible refine (footwayref07_Number.calls a1 true _ A25.out).mono ?_); rintro e w' ⟨rfl, ⟨nd, rfl⟩⟩; refine ⟨_, rfl, ?_⟩) | ((with_reducible refine gate_callee (f := 36) rfl ?_); refine goesL_ (some 91) rfl rfl Th.func36 (by kernel_rfl) rfl #[.int .i64 a0] rfl (by (try simp only [List.map_toArray, List.map_cons, List.map_nil]); first | done | rfl | (simp only [List.length_drop, List.length_take]; rfl)) ?_; (with_reducible refine (footwayref01_Right.calls a0 t159 _ A27.out).mono ?_); rintro e w' ⟨rfl, ⟨nd, rfl⟩⟩; refine ⟨_, rfl, ?_⟩))
    (try simp only [Act.put, List.setIfInBounds_toArray, List.set_cons_zero, List.set_cons_succ])
    go_cut [] (fun wc => ∃ (kq : Nat), Aside0 (footwaylaw07_HashTells.j1 kq a1 t142 t149 t150 t153 t154 = some r) ∧ Aside0 (kq ≤ kj9) ∧ Aside0 (Kd.V (Kd.int .i64) 3 wc w.heap.size (fun k_ => some k_ ≠ (v151 : Value).ownBlock) (.slice Ao14 t142.length co14) t142) ∧ Aside0 (Kd.R (Kd.int .i64) 3 wc w.heap.size (fun _ => True) v151 t149) ∧ Aside0 (Below w.heap.size w wc))
    case first =>
     have H := HC28.out
     clear HC28
     by_cases c29 : t159 = true
     ·subst c29
      have H1 : (if t148 = 0 then ((footwayref07_Bucket.f kj9 a0 a1).bind fun t160 => (if t147 = t160 then (footwaylaw07_HashTells.j1 kj9 a1 t142 t149 t150 t153 t154) else (some false))) else (some false)) = some r := by rw [if_pos rfl] at H; exact H
      clear H
      have H := H1
      clear H1
      by_cases c30 : t148 = 0
      ·rw [if_pos c30] at H
       have c30b0 : (t148 == 0) = true := beq_iff_eq.mpr c30
       have c30b1 : (t148 != 0) = false := bne_eq_false_iff_eq.mpr c30
       clear c30
       (first | rw [c30b0] | (simp only [i64_w, i32_w]; rw [c30b0]) | skip)
       replace H := Option.bind_eq_some_iff.mp H
       obtain ⟨t160, A310, H⟩ := H
       replace H : (if t147 = t160 then (footwaylaw07_HashTells.j1 kj9 a1 t142 t149 t150 t153 t154) else (some false)) = some r := H
       have A31 := Aside0.mk A310
       clear A310
       by_cases c32 : t147 = t160
       ·rw [if_pos c32] at H
        have c32b0 : (t147 == t160) = true := beq_iff_eq.mpr c32
        have c32b1 : (t147 != t160) = false := bne_eq_false_iff_eq.mpr c32
        clear c32
        have H' := Aside0.mk H
        clear H
        go_wp2_with (first | (go_at_call 50; (with_reducible refine (footwayref07_Bucket.calls kj9 a0 a1 t160 _ A31.out).mono ?_); rintro e w33 ⟨rfl, hb⟩; have n0_ := Aside0.mk (Kd.V_below (by (with_reducible repeat (first | apply Kd.V_alloc | apply Kd.V_drewN | apply Kd.V_drew)); exact HO_2.out) hb); have n1_ := Aside0.mk (Kd.R_below (by (with_reducible repeat (first | apply Kd.R_alloc | apply Kd.R_drewN | apply Kd.R_drew)); exact HO_11.out) hb); have n2_ := Aside0.mk (below_step (by repeat (first | (with_reducible first | exact HB.out | apply below_alloc | apply pw_below_drewN | apply below_drew1) | exact HB.out)) hb); clear HO_2; clear HO_11; clear HB; have HO_2 := n0_; have HO_11 := n1_; have HB := n2_; clear n0_ n1_ n2_; (try clear hb); (try clear hb2); (try clear hk); (try clear hi)))
        go_meet
        case rel => exact ⟨_, H', ⟨by have := HJ9.out; first | omega | exact Nat.le_refl _⟩, ⟨by (with_reducible repeat (first | apply Kd.V_alloc | apply Kd.V_drewN | apply Kd.V_drew)); exact HO_2.out⟩, ⟨by (with_reducible repeat (first | apply Kd.R_alloc | apply Kd.R_drewN | apply Kd.R_drew)); exact HO_11.out⟩, ⟨by repeat (first | (with_reducible first | exact HB.out | apply below_alloc | apply pw_below_drewN | apply below_drew1) | exact HB.out)⟩⟩
       ·rw [if_neg c32] at H
        have c32b0 : (t147 == t160) = false := beq_eq_false_iff_ne.mpr c32
        have c32b1 : (t147 != t160) = true := bne_iff_ne.mpr c32
        obtain rfl := Option.some.inj H
        go_wp2_with (first | (go_at_call 50; (with_reducible refine (footwayref07_Bucket.calls kj9 a0 a1 t160 _ A31.out).mono ?_); rintro e w34 ⟨rfl, hb⟩; have n0_ := Aside0.mk (Kd.V_below (by (with_reducible repeat (first | apply Kd.V_alloc | apply Kd.V_drewN | apply Kd.V_drew)); exact HO_2.out) hb); have n1_ := Aside0.mk (Kd.R_below (by (with_reducible repeat (first | apply Kd.R_alloc | apply Kd.R_drewN | apply Kd.R_drew)); exact HO_11.out) hb); have n2_ := Aside0.mk (below_step (by repeat (first | (with_reducible first | exact HB.out | apply below_alloc | apply pw_below_drewN | apply below_drew1) | exact HB.out)) hb); clear HO_2; clear HO_11; clear HB; have HO_2 := n0_; have HO_11 := n1_; have HB := n2_; clear n0_ n1_ n2_; (try clear hb); (try clear hb2); (try clear hk); (try clear hi)))
        go_ret
        exact ⟨by first | rfl | (simp [errW_none, errW_some] <;> rfl) | (simp [*, errW_none, errW_some] <;> rfl), by repeat (first | (with_reducible first | exact HB.out | apply below_alloc | apply pw_below_drewN | apply below_drew1) | exact HB.out)⟩
      ·rw [if_neg c30] at H
       have c30b0 : (t148 == 0) = false := beq_eq_false_iff_ne.mpr c30
       have c30b1 : (t148 != 0) = true := bne_iff_ne.mpr c30
       (first | rw [c30b0] | (simp only [i64_w, i32_w]; rw [c30b0]) | skip)
       obtain rfl := Option.some.inj H
       go_wp2
       go_ret
       exact ⟨by first | rfl | (simp [errW_none, errW_some] <;> rfl) | (simp [*, errW_none, errW_some] <;> rfl), by repeat (first | (with_reducible first | exact HB.out | apply below_alloc | apply pw_below_drewN | apply below_drew1) | exact HB.out)⟩
     ·replace c29 := Bool.eq_false_iff.mpr c29
      subst c29
      have H1 : (if t148 = 1 then (if t147 = 0 then (footwaylaw07_HashTells.j1 kj9 a1 t142 t149 t150 t153 t154) else (some false)) else (some false)) = some r := by rw [if_neg (show ¬ (false = true) by decide)] at H; exact H
      clear H
      have H := H1
      clear H1
      by_cases c35 : t148 = 1
      ·rw [if_pos c35] at H
       have c35b0 : (t148 == 1) = true := beq_iff_eq.mpr c35
       have c35b1 : (t148 != 1) = false := bne_eq_false_iff_eq.mpr c35
       clear c35
       by_cases c36 : t147 = 0
       ·rw [if_pos c36] at H
        have c36b0 : (t147 == 0) = true := beq_iff_eq.mpr c36
        have c36b1 : (t147 != 0) = false := bne_eq_false_iff_eq.mpr c36
        clear c36
        have H' := Aside0.mk H
        clear H
        go_wp2
        go_meet
        case rel => exact ⟨_, H', ⟨by have := HJ9.out; first | omega | exact Nat.le_refl _⟩, ⟨by (with_reducible repeat (first | apply Kd.V_alloc | apply Kd.V_drewN | apply Kd.V_drew)); exact HO_2.out⟩, ⟨by (with_reducible repeat (first | apply Kd.R_alloc | apply Kd.R_drewN | apply Kd.R_drew)); exact HO_11.out⟩, ⟨by repeat (first | (with_reducible first | exact HB.out | apply below_alloc | apply pw_below_drewN | apply below_drew1) | exact HB.out)⟩⟩
       ·rw [if_neg c36] at H
        have c36b0 : (t147 == 0) = false := beq_eq_false_iff_ne.mpr c36
        have c36b1 : (t147 != 0) = true := bne_iff_ne.mpr c36
        obtain rfl := Option.some.inj H
        go_wp2
        go_ret
        exact ⟨by first | rfl | (simp [errW_none, errW_some] <;> rfl) | (simp [*, errW_none, errW_some] <;> rfl), by repeat (first | (with_reducible first | exact HB.out | apply below_alloc | apply pw_below_drewN | apply below_drew1) | exact HB.out)⟩
      ·rw [if_neg c35] at H
       have c35b0 : (t148 == 1) = false := beq_eq_false_iff_ne.mpr c35
       have c35b1 : (t148 != 1) = true := bne_iff_ne.mpr c35
       obtain rfl := Option.some.inj H
       go_wp2
       go_ret
       exact ⟨by first | rfl | (simp [errW_none, errW_some] <;> rfl) | (simp [*, errW_none, errW_some] <;> rfl), by repeat (first | (with_reducible first | exact HB.out | apply below_alloc | apply pw_below_drewN | apply below_drew1) | exact HB.out)⟩
    case rest =>
     clear HC28
     try clear c1
     try clear c2
     try clear p2
     try clear c3
     try clear c4
     try clear c11
     try clear c17
     try clear c18
     try clear c18b0
     try clear c18b1
     try clear c20
     try clear c20b0
     try clear c20b1
     try clear c23
     try clear c23b0
     try clear c23b1
     try clear c24
     try clear c24b0
     try clear c24b1
     try clear c26
     try clear c29
     try clear c30
     try clear c30b0
     try clear c30b1
     try clear c32
     try clear c32b0
     try clear c32b1
     try clear c35
     try clear c35b0
     try clear c35b1
     try clear c36
     try clear c36b0
     try clear c36b1
     try clear p2
     obtain ⟨kq, HA, HJ27, HO_2, HO_11, HB⟩ := hcut
     cases kq with
     | zero => exact absurd HA.out (by simp [footwaylaw07_HashTells.j1])
     | succ kj27 =>
      have H := HA.out
      clear HA
      simp only [footwaylaw07_HashTells.j1] at H
      replace H := Option.bind_eq_some_iff.mp H
      obtain ⟨t161, A370, H⟩ := H
      replace H : (if t161 = true then ((footwayref07_Spread.f kj27 t142 a1).bind fun t163 => (footwaylaw07_HashTells.l0 kj27 t149 t150 t153 t154 t163 0 t163 (t163.length : Int) 0)) else ((footwaylaw07_alive.f kj27).bind fun t162 => (if t162 = true then (if t150 = 1 then (if t154 = 1 then (if (t149.length : Int) = 0 then (some (t153 == 0)) else (some false)) else (some false)) else (some false)) else (some false)))) = some r := H
      have A37 := Aside0.mk A370
      clear A370
      by_cases c38 : t161 = true
      ·subst c38
       have H1 : ((footwayref07_Spread.f kj27 t142 a1).bind fun t163 => (footwaylaw07_HashTells.l0 kj27 t149 t150 t153 t154 t163 0 t163 (t163.length : Int) 0)) = some r := by rw [if_pos rfl] at H; exact H
       clear H
       have H := H1
       clear H1
       replace H := Option.bind_eq_some_iff.mp H
       obtain ⟨t163, A390, H⟩ := H
       replace H : (footwaylaw07_HashTells.l0 kj27 t149 t150 t153 t154 t163 0 t163 (t163.length : Int) 0) = some r := H
       have A39 := Aside0.mk A390
       clear A390
       have H' := Aside0.mk H
       clear H
       go_wp2_with (first | ((with_reducible refine gate_callee (f := 51) rfl ?_); refine goesL_ (some 109) rfl rfl Th.func51 (by kernel_rfl) rfl #[.slice Ao14 t142.length co14] rfl (by (try simp only [List.map_toArray, List.map_cons, List.map_nil]); first | done | rfl | (simp only [List.length_drop, List.length_take]; rfl)) ?_; (with_reducible refine (footwayref07_All.calls kj27 _ _ t142 true _ ?side1 ?side2 A37.out).mono ?_); (case side1 => repeat (first | exact (Kd.V_reads' HO_2.out).2.2 | (with_reducible refine Kd.C_alloc ?_ _) | (with_reducible refine Kd.C_drewN ?_ _) | (with_reducible refine Kd.C_drew ?_))); (case side2 => exact (Kd.V_reads' HO_2.out).2.1); rintro e w' ⟨rfl, ⟨nd, rfl⟩⟩; refine ⟨_, rfl, ?_⟩) | ((with_reducible refine gate_callee (f := 52) rfl ?_); refine goesL_ (some 131) rfl rfl Th.func52 (by kernel_rfl) rfl #[.slice Ao14 t142.length co14, .int .i64 a1] rfl (by (try simp only [List.map_toArray, List.map_cons, List.map_nil]); first | done | rfl | (simp only [List.length_drop, List.length_take]; rfl)) ?_; (with_reducible refine (footwayref07_Spread.calls kj27 _ _ t142 a1 t163 _ ?side1 ?side2 A39.out).mono ?_); (case side1 => repeat (first | exact (Kd.V_reads' HO_2.out).2.2 | (with_reducible refine Kd.C_alloc ?_ _) | (with_reducible refine Kd.C_drewN ?_ _) | (with_reducible refine Kd.C_drew ?_))); (case side2 => exact (Kd.V_reads' HO_2.out).2.1); rintro e w40 ⟨v164, rfl, ho0, hb⟩; refine ⟨_, rfl, ?_⟩; have n0_ := Aside0.mk (Kd.V_elder' (by (with_reducible repeat (first | apply Kd.V_alloc | apply Kd.V_drewN | apply Kd.V_drew)); exact HO_2.out) (Kd.R_base ho0) hb); have n1_ := Aside0.mk (Kd.R_elder' (by (with_reducible repeat (first | apply Kd.R_alloc | apply Kd.R_drewN | apply Kd.R_drew)); exact HO_11.out) (Kd.R_base ho0) hb); have n2_ := Aside0.mk (Kd.R_lower (Kd.R_new' ho0 (Kd.R_lt (by (with_reducible repeat (first | apply Kd.R_alloc | apply Kd.R_drewN | apply Kd.R_drew)); exact HO_11.out))) (below_size (by repeat (first | (with_reducible first | exact HB.out | apply below_alloc | apply pw_below_drewN | apply below_drew1) | exact HB.out)))); have n3_ := Aside0.mk (below_step (by repeat (first | (with_reducible first | exact HB.out | apply below_alloc | apply pw_below_drewN | apply below_drew1) | exact HB.out)) hb); clear HO_2; clear HO_11; clear HB; have HO_2 := n0_; have HO_11 := n1_; have HO165 := n2_; have HB := n3_; clear n0_ n1_ n2_ n3_; (try clear hb); (try clear hb2); (try clear hk); (try clear hi); (try clear ho0); obtain ⟨Ao41, co41, eo41⟩ := Kd.R_slice HO165.out; subst eo41))
       go_loopg [16, 134] kj27 (fun kq v16 v134 w' => ∃ (x16_3 : Int) (x134_3 : Int), v16 = .int .i64 x16_3 ∧ v134 = .int .i64 x134_3 ∧ Aside0 (footwaylaw07_HashTells.l0 kq t149 t150 t153 t154 t163 x16_3 t163 (t163.length : Int) x134_3 = some r) ∧ Aside0 (kq ≤ kj27) ∧ Aside0 (Kd.R (Kd.int .i64) 3 w' w.heap.size (fun k_ => some k_ ≠ ((.slice Ao41 t163.length co41) : Value).ownBlock ∧ some k_ ≠ ((.slice Ao41 t163.length co41) : Value).ownBlock) v151 t149) ∧ Aside0 (Kd.R (Kd.int .i64) 3 w' w.heap.size (fun k_ => some k_ ≠ (v151 : Value).ownBlock) (.slice Ao41 t163.length co41) t163) ∧ Aside0 (Kd.R (Kd.int .i64) 3 w' w.heap.size (fun k_ => some k_ ≠ (v151 : Value).ownBlock) (.slice Ao41 t163.length co41) t163) ∧ Aside0 (Below w.heap.size w w'))
       case atStart => exact ⟨(0), (0), (by first | rfl | (simp; done) | (simp [*]; done)), (by first | rfl | (simp; done) | (simp [*]; done)), H', ⟨Nat.le_refl _⟩, ⟨by (with_reducible repeat (first | apply Kd.R_alloc | apply Kd.R_drewN | apply Kd.R_drew)); exact Kd.R_mono HO_11.out (fun _ hk => ⟨hk.2, hk.2⟩)⟩, ⟨by (with_reducible repeat (first | apply Kd.R_alloc | apply Kd.R_drewN | apply Kd.R_drew)); exact Kd.R_mono HO165.out (fun _ hk => hk.2)⟩, ⟨by (with_reducible repeat (first | apply Kd.R_alloc | apply Kd.R_drewN | apply Kd.R_drew)); exact Kd.R_mono HO165.out (fun _ hk => hk.2)⟩, ⟨by repeat (first | (with_reducible first | exact HB.out | apply below_alloc | apply pw_below_drewN | apply below_drew1) | exact HB.out)⟩⟩
       case round =>
        clear H'
        try clear c1
        try clear c2
        try clear p2
        try clear c3
        try clear c4
        try clear c5
        try clear c11
        try clear c17
        try clear c18
        try clear c18b0
        try clear c18b1
        try clear c20
        try clear c20b0
        try clear c20b1
        try clear c23
        try clear c23b0
        try clear c23b1
        try clear c24
        try clear c24b0
        try clear c24b1
        try clear c26
        try clear c29
        try clear c30
        try clear c30b0
        try clear c30b1
        try clear c32
        try clear c32b0
        try clear c32b1
        try clear c35
        try clear c35b0
        try clear c35b1
        try clear c36
        try clear c36b0
        try clear c36b1
        try clear c38
        try clear p2
        obtain ⟨x16_3, x134_3, rfl, rfl, HA, HK3, HO_11, HO_15, HO_132, HB⟩ := hrel
        cases gk with
        | zero => exact absurd HA.out (by simp [footwaylaw07_HashTells.l0])
        | succ k3 =>
         have H := HA.out
         clear HA
         simp only [footwaylaw07_HashTells.l0] at H
         by_cases c42 : x134_3 < (t163.length : Int)
         ·rw [if_pos c42] at H
          have c42b0 : decide (x134_3 < (t163.length : Int)) = true := decide_eq_true c42
          clear c42
          by_cases c43 : 0 ≤ x134_3
          ·rw [if_pos c43] at H
           have c43b0 : decide (0 ≤ x134_3) = true := decide_eq_true c43
           clear c43
           by_cases c44 : x134_3 < (t163.length : Int)
           ·rw [if_pos c44] at H
            have c44b0 : decide (x134_3 < (t163.length : Int)) = true := decide_eq_true c44
            clear c44
            obtain ⟨ji45, hji45⟩ : ∃ j_ : Int, (mx x16_3 (rd t163 x134_3)) = j_ := ⟨_, rfl⟩
            replace H : (footwaylaw07_HashTells.l0 k3 t149 t150 t153 t154 t163 ji45 t163 (t163.length : Int) (wrap64 (x134_3 + 1))) = some r := by first | (rw [hji45] at H; exact H) | (simp only [hji45] at H ⊢; exact H)
            have hji45_ : (if x16_3 < (rd t163 x134_3) then (rd t163 x134_3) else x16_3) = ji45 := hji45
            have H' := Aside0.mk H
            clear H
            have p166 : 0 ≤ (x134_3 : Int) := of_decide_eq_true (by first | (with_reducible assumption) | assumption)
            have q166 : x134_3 < (t163.length : Int) := of_decide_eq_true (by first | (with_reducible assumption) | assumption)
            obtain ⟨ad166, e166, hx166_0⟩ := Kd.at_int (Kd.R_reads' HO_132.out).2.2 x134_3 p166 q166
            cases e166
            replace p166 := eq_true p166
            replace q166 := eq_true q166
            go_wp2
            go_roundg k3
            case measure => have := HJ9.out; have := HJ27.out; have := HK3.out; omega
            case rel => exact ⟨(ji45), (wrap64 (x134_3 + 1)), (by first | rfl | (simp; done) | (simp only [← hji45] <;> (first | rfl | simp)) | (simp [*]; done)), (by first | rfl | (simp; done) | (simp [*]; done)), H', ⟨by have := HJ9.out; have := HJ27.out; have := HK3.out; omega⟩, ⟨by (with_reducible repeat (first | apply Kd.R_alloc | apply Kd.R_drewN | apply Kd.R_drew)); exact HO_11.out⟩, ⟨by (with_reducible repeat (first | apply Kd.R_alloc | apply Kd.R_drewN | apply Kd.R_drew)); exact HO_15.out⟩, ⟨by (with_reducible repeat (first | apply Kd.R_alloc | apply Kd.R_drewN | apply Kd.R_drew)); exact HO_132.out⟩, ⟨by repeat (first | (with_reducible first | exact HB.out | apply below_alloc | apply pw_below_drewN | apply below_drew1) | exact HB.out)⟩⟩
           ·rw [if_neg c44] at H
            exact absurd H (by simp)
          ·rw [if_neg c43] at H
           exact absurd H (by simp)
         ·rw [if_neg c42] at H
          have c42b0 : decide (x134_3 < (t163.length : Int)) = false := decide_eq_false c42
          clear c42
          replace H := Option.bind_eq_some_iff.mp H
          obtain ⟨t167, A460, H⟩ := H
          replace H : (if t167 = true then (if t150 = 0 then (if t154 = 0 then ((footwayref06_Same.f k3 t149 t163).bind fun t168 => (if t168 = true then (some (t153 == x16_3)) else (some false))) else (some false)) else (some false)) else (some false)) = some r := H
          have A46 := Aside0.mk A460
          clear A460
          by_cases c47 : t167 = true
          ·subst c47
           have H1 : (if t150 = 0 then (if t154 = 0 then ((footwayref06_Same.f k3 t149 t163).bind fun t168 => (if t168 = true then (some (t153 == x16_3)) else (some false))) else (some false)) else (some false)) = some r := by rw [if_pos rfl] at H; exact H
           clear H
           have H := H1
           clear H1
           by_cases c48 : t150 = 0
           ·rw [if_pos c48] at H
            have c48b0 : (t150 == 0) = true := beq_iff_eq.mpr c48
            have c48b1 : (t150 != 0) = false := bne_eq_false_iff_eq.mpr c48
            clear c48
            by_cases c49 : t154 = 0
            ·rw [if_pos c49] at H
             have c49b0 : (t154 == 0) = true := beq_iff_eq.mpr c49
             have c49b1 : (t154 != 0) = false := bne_eq_false_iff_eq.mpr c49
             clear c49
             replace H := Option.bind_eq_some_iff.mp H
             obtain ⟨t168, A500, H⟩ := H
             replace H : (if t168 = true then (some (t153 == x16_3)) else (some false)) = some r := H
             have A50 := Aside0.mk A500
             clear A500
             by_cases c51 : t168 = true
             ·subst c51
              have H1 : (some (t153 == x16_3)) = some r := by rw [if_pos rfl] at H; exact H
              clear H
              have H := H1
              clear H1
              obtain rfl := Option.some.inj H
              go_wp2_with (first | ((with_reducible refine gate_callee (f := 49) rfl ?_); refine goesL_ (some 142) rfl rfl Th.func49 (by kernel_rfl) rfl #[] rfl (by (try simp only [List.map_toArray, List.map_cons, List.map_nil]); first | done | rfl | (simp only [List.length_drop, List.length_take]; rfl)) ?_; (with_reducible refine (footwaylaw07_alive.calls k3  true _ A46.out).mono ?_); rintro e w52 ⟨rfl, hb⟩; refine ⟨_, rfl, ?_⟩; have n0_ := Aside0.mk (Kd.R_below (by (with_reducible repeat (first | apply Kd.R_alloc | apply Kd.R_drewN | apply Kd.R_drew)); exact HO_11.out) hb); have n1_ := Aside0.mk (Kd.R_below (by (with_reducible repeat (first | apply Kd.R_alloc | apply Kd.R_drewN | apply Kd.R_drew)); exact HO_15.out) hb); have n2_ := Aside0.mk (Kd.R_below (by (with_reducible repeat (first | apply Kd.R_alloc | apply Kd.R_drewN | apply Kd.R_drew)); exact HO_132.out) hb); have n3_ := Aside0.mk (below_step (by repeat (first | (with_reducible first | exact HB.out | apply below_alloc | apply pw_below_drewN | apply below_drew1) | exact HB.out)) hb); clear HO_11; clear HO_15; clear HO_132; clear HB; have HO_11 := n0_; have HO_15 := n1_; have HO_132 := n2_; have HB := n3_; clear n0_ n1_ n2_ n3_; (try clear hb); (try clear hb2); (try clear hk); (try clear hi); obtain ⟨Ao53, co53, eo53⟩ := Kd.R_slice HO_11.out; subst eo53) | (go_at_call 53; (with_reducible refine (footwayref06_Same.calls k3 _ _ t149 _ _ t163 true _ ?side1 ?side2 ?side3 ?side4 A50.out).mono ?_); (case side1 => repeat (first | exact (Kd.R_reads' HO_11.out).2.2 | (with_reducible refine Kd.C_alloc ?_ _) | (with_reducible refine Kd.C_drewN ?_ _) | (with_reducible refine Kd.C_drew ?_))); (case side2 => exact (Kd.R_reads' HO_11.out).2.1); (case side3 => repeat (first | exact (Kd.R_reads' HO_15.out).2.2 | (with_reducible refine Kd.C_alloc ?_ _) | (with_reducible refine Kd.C_drewN ?_ _) | (with_reducible refine Kd.C_drew ?_))); (case side4 => exact (Kd.R_reads' HO_15.out).2.1); rintro e w' ⟨rfl, ⟨nd, rfl⟩⟩))
              go_ret
              exact ⟨by first | rfl | (simp [errW_none, errW_some] <;> rfl) | (simp [*, errW_none, errW_some] <;> rfl), by repeat (first | (with_reducible first | exact HB.out | apply below_alloc | apply pw_below_drewN | apply below_drew1) | exact HB.out)⟩
             ·replace c51 := Bool.eq_false_iff.mpr c51
              subst c51
              have H1 : (some false) = some r := by rw [if_neg (show ¬ (false = true) by decide)] at H; exact H
              clear H
              have H := H1
              clear H1
              obtain rfl := Option.some.inj H
              go_wp2_with (first | ((with_reducible refine gate_callee (f := 49) rfl ?_); refine goesL_ (some 142) rfl rfl Th.func49 (by kernel_rfl) rfl #[] rfl (by (try simp only [List.map_toArray, List.map_cons, List.map_nil]); first | done | rfl | (simp only [List.length_drop, List.length_take]; rfl)) ?_; (with_reducible refine (footwaylaw07_alive.calls k3  true _ A46.out).mono ?_); rintro e w54 ⟨rfl, hb⟩; refine ⟨_, rfl, ?_⟩; have n0_ := Aside0.mk (Kd.R_below (by (with_reducible repeat (first | apply Kd.R_alloc | apply Kd.R_drewN | apply Kd.R_drew)); exact HO_11.out) hb); have n1_ := Aside0.mk (Kd.R_below (by (with_reducible repeat (first | apply Kd.R_alloc | apply Kd.R_drewN | apply Kd.R_drew)); exact HO_15.out) hb); have n2_ := Aside0.mk (Kd.R_below (by (with_reducible repeat (first | apply Kd.R_alloc | apply Kd.R_drewN | apply Kd.R_drew)); exact HO_132.out) hb); have n3_ := Aside0.mk (below_step (by repeat (first | (with_reducible first | exact HB.out | apply below_alloc | apply pw_below_drewN | apply below_drew1) | exact HB.out)) hb); clear HO_11; clear HO_15; clear HO_132; clear HB; have HO_11 := n0_; have HO_15 := n1_; have HO_132 := n2_; have HB := n3_; clear n0_ n1_ n2_ n3_; (try clear hb); (try clear hb2); (try clear hk); (try clear hi); obtain ⟨Ao55, co55, eo55⟩ := Kd.R_slice HO_11.out; subst eo55) | (go_at_call 53; (with_reducible refine (footwayref06_Same.calls k3 _ _ t149 _ _ t163 false _ ?side1 ?side2 ?side3 ?side4 A50.out).mono ?_); (case side1 => repeat (first | exact (Kd.R_reads' HO_11.out).2.2 | (with_reducible refine Kd.C_alloc ?_ _) | (with_reducible refine Kd.C_drewN ?_ _) | (with_reducible refine Kd.C_drew ?_))); (case side2 => exact (Kd.R_reads' HO_11.out).2.1); (case side3 => repeat (first | exact (Kd.R_reads' HO_15.out).2.2 | (with_reducible refine Kd.C_alloc ?_ _) | (with_reducible refine Kd.C_drewN ?_ _) | (with_reducible refine Kd.C_drew ?_))); (case side4 => exact (Kd.R_reads' HO_15.out).2.1); rintro e w' ⟨rfl, ⟨nd, rfl⟩⟩))
              go_ret
              exact ⟨by first | rfl | (simp [errW_none, errW_some] <;> rfl) | (simp [*, errW_none, errW_some] <;> rfl), by repeat (first | (with_reducible first | exact HB.out | apply below_alloc | apply pw_below_drewN | apply below_drew1) | exact HB.out)⟩
            ·rw [if_neg c49] at H
             have c49b0 : (t154 == 0) = false := beq_eq_false_iff_ne.mpr c49
             have c49b1 : (t154 != 0) = true := bne_iff_ne.mpr c49
             obtain rfl := Option.some.inj H
             go_wp2_with (first | ((with_reducible refine gate_callee (f := 49) rfl ?_); refine goesL_ (some 142) rfl rfl Th.func49 (by kernel_rfl) rfl #[] rfl (by (try simp only [List.map_toArray, List.map_cons, List.map_nil]); first | done | rfl | (simp only [List.length_drop, List.length_take]; rfl)) ?_; (with_reducible refine (footwaylaw07_alive.calls k3  true _ A46.out).mono ?_); rintro e w56 ⟨rfl, hb⟩; refine ⟨_, rfl, ?_⟩; have n0_ := Aside0.mk (Kd.R_below (by (with_reducible repeat (first | apply Kd.R_alloc | apply Kd.R_drewN | apply Kd.R_drew)); exact HO_11.out) hb); have n1_ := Aside0.mk (Kd.R_below (by (with_reducible repeat (first | apply Kd.R_alloc | apply Kd.R_drewN | apply Kd.R_drew)); exact HO_15.out) hb); have n2_ := Aside0.mk (Kd.R_below (by (with_reducible repeat (first | apply Kd.R_alloc | apply Kd.R_drewN | apply Kd.R_drew)); exact HO_132.out) hb); have n3_ := Aside0.mk (below_step (by repeat (first | (with_reducible first | exact HB.out | apply below_alloc | apply pw_below_drewN | apply below_drew1) | exact HB.out)) hb); clear HO_11; clear HO_15; clear HO_132; clear HB; have HO_11 := n0_; have HO_15 := n1_; have HO_132 := n2_; have HB := n3_; clear n0_ n1_ n2_ n3_; (try clear hb); (try clear hb2); (try clear hk); (try clear hi)))
             go_ret
             exact ⟨by first | rfl | (simp [errW_none, errW_some] <;> rfl) | (simp [*, errW_none, errW_some] <;> rfl), by repeat (first | (with_reducible first | exact HB.out | apply below_alloc | apply pw_below_drewN | apply below_drew1) | exact HB.out)⟩
           ·rw [if_neg c48] at H
            have c48b0 : (t150 == 0) = false := beq_eq_false_iff_ne.mpr c48
            have c48b1 : (t150 != 0) = true := bne_iff_ne.mpr c48
            obtain rfl := Option.some.inj H
            go_wp2_with (first | ((with_reducible refine gate_callee (f := 49) rfl ?_); refine goesL_ (some 142) rfl rfl Th.func49 (by kernel_rfl) rfl #[] rfl (by (try simp only [List.map_toArray, List.map_cons, List.map_nil]); first | done | rfl | (simp only [List.length_drop, List.length_take]; rfl)) ?_; (with_reducible refine (footwaylaw07_alive.calls k3  true _ A46.out).mono ?_); rintro e w57 ⟨rfl, hb⟩; refine ⟨_, rfl, ?_⟩; have n0_ := Aside0.mk (Kd.R_below (by (with_reducible repeat (first | apply Kd.R_alloc | apply Kd.R_drewN | apply Kd.R_drew)); exact HO_11.out) hb); have n1_ := Aside0.mk (Kd.R_below (by (with_reducible repeat (first | apply Kd.R_alloc | apply Kd.R_drewN | apply Kd.R_drew)); exact HO_15.out) hb); have n2_ := Aside0.mk (Kd.R_below (by (with_reducible repeat (first | apply Kd.R_alloc | apply Kd.R_drewN | apply Kd.R_drew)); exact HO_132.out) hb); have n3_ := Aside0.mk (below_step (by repeat (first | (with_reducible first | exact HB.out | apply below_alloc | apply pw_below_drewN | apply below_drew1) | exact HB.out)) hb); clear HO_11; clear HO_15; clear HO_132; clear HB; have HO_11 := n0_; have HO_15 := n1_; have HO_132 := n2_; have HB := n3_; clear n0_ n1_ n2_ n3_; (try clear hb); (try clear hb2); (try clear hk); (try clear hi)))
            go_ret
            exact ⟨by first | rfl | (simp [errW_none, errW_some] <;> rfl) | (simp [*, errW_none, errW_some] <;> rfl), by repeat (first | (with_reducible first | exact HB.out | apply below_alloc | apply pw_below_drewN | apply below_drew1) | exact HB.out)⟩
          ·replace c47 := Bool.eq_false_iff.mpr c47
           subst c47
           have H1 : (some false) = some r := by rw [if_neg (show ¬ (false = true) by decide)] at H; exact H
           clear H
           have H := H1
           clear H1
           obtain rfl := Option.some.inj H
           go_wp2_with (first | ((with_reducible refine gate_callee (f := 49) rfl ?_); refine goesL_ (some 142) rfl rfl Th.func49 (by kernel_rfl) rfl #[] rfl (by (try simp only [List.map_toArray, List.map_cons, List.map_nil]); first | done | rfl | (simp only [List.length_drop, List.length_take]; rfl)) ?_; (with_reducible refine (footwaylaw07_alive.calls k3  false _ A46.out).mono ?_); rintro e w58 ⟨rfl, hb⟩; refine ⟨_, rfl, ?_⟩; have n0_ := Aside0.mk (Kd.R_below (by (with_reducible repeat (first | apply Kd.R_alloc | apply Kd.R_drewN | apply Kd.R_drew)); exact HO_11.out) hb); have n1_ := Aside0.mk (Kd.R_below (by (with_reducible repeat (first | apply Kd.R_alloc | apply Kd.R_drewN | apply Kd.R_drew)); exact HO_15.out) hb); have n2_ := Aside0.mk (Kd.R_below (by (with_reducible repeat (first | apply Kd.R_alloc | apply Kd.R_drewN | apply Kd.R_drew)); exact HO_132.out) hb); have n3_ := Aside0.mk (below_step (by repeat (first | (with_reducible first | exact HB.out | apply below_alloc | apply pw_below_drewN | apply below_drew1) | exact HB.out)) hb); clear HO_11; clear HO_15; clear HO_132; clear HB; have HO_11 := n0_; have HO_15 := n1_; have HO_132 := n2_; have HB := n3_; clear n0_ n1_ n2_ n3_; (try clear hb); (try clear hb2); (try clear hk); (try clear hi)))
           go_ret
           exact ⟨by first | rfl | (simp [errW_none, errW_some] <;> rfl) | (simp [*, errW_none, errW_some] <;> rfl), by repeat (first | (with_reducible first | exact HB.out | apply below_alloc | apply pw_below_drewN | apply below_drew1) | exact HB.out)⟩
      ·replace c38 := Bool.eq_false_iff.mpr c38
       subst c38
       have H1 : ((footwaylaw07_alive.f kj27).bind fun t162 => (if t162 = true then (if t150 = 1 then (if t154 = 1 then (if (t149.length : Int) = 0 then (some (t153 == 0)) else (some false)) else (some false)) else (some false)) else (some false))) = some r := by rw [if_neg (show ¬ (false = true) by decide)] at H; exact H
       clear H
       have H := H1
       clear H1
       replace H := Option.bind_eq_some_iff.mp H
       obtain ⟨t162, A590, H⟩ := H
       replace H : (if t162 = true then (if t150 = 1 then (if t154 = 1 then (if (t149.length : Int) = 0 then (some (t153 == 0)) else (some false)) else (some false)) else (some false)) else (some false)) = some r := H
       have A59 := Aside0.mk A590
       clear A590
       by_cases c60 : t162 = true
       ·subst c60
        have H1 : (if t150 = 1 then (if t154 = 1 then (if (t149.length : Int) = 0 then (some (t153 == 0)) else (some false)) else (some false)) else (some false)) = some r := by rw [if_pos rfl] at H; exact H
        clear H
        have H := H1
        clear H1
        by_cases c61 : t150 = 1
        ·rw [if_pos c61] at H
         have c61b0 : (t150 == 1) = true := beq_iff_eq.mpr c61
         have c61b1 : (t150 != 1) = false := bne_eq_false_iff_eq.mpr c61
         clear c61
         by_cases c62 : t154 = 1
         ·rw [if_pos c62] at H
          have c62b0 : (t154 == 1) = true := beq_iff_eq.mpr c62
          have c62b1 : (t154 != 1) = false := bne_eq_false_iff_eq.mpr c62
          clear c62
          by_cases c63 : (t149.length : Int) = 0
          ·rw [if_pos c63] at H
           have c63b0 : ((t149.length : Int) == 0) = true := beq_iff_eq.mpr c63
           have c63b1 : ((t149.length : Int) != 0) = false := bne_eq_false_iff_eq.mpr c63
           clear c63
           obtain rfl := Option.some.inj H
           go_wp2_with (first | ((with_reducible refine gate_callee (f := 51) rfl ?_); refine goesL_ (some 109) rfl rfl Th.func51 (by kernel_rfl) rfl #[.slice Ao14 t142.length co14] rfl (by (try simp only [List.map_toArray, List.map_cons, List.map_nil]); first | done | rfl | (simp only [List.length_drop, List.length_take]; rfl)) ?_; (with_reducible refine (footwayref07_All.calls kj27 _ _ t142 false _ ?side1 ?side2 A37.out).mono ?_); (case side1 => repeat (first | exact (Kd.V_reads' HO_2.out).2.2 | (with_reducible refine Kd.C_alloc ?_ _) | (with_reducible refine Kd.C_drewN ?_ _) | (with_reducible refine Kd.C_drew ?_))); (case side2 => exact (Kd.V_reads' HO_2.out).2.1); rintro e w' ⟨rfl, ⟨nd, rfl⟩⟩; refine ⟨_, rfl, ?_⟩) | ((with_reducible refine gate_callee (f := 49) rfl ?_); refine goesL_ (some 111) rfl rfl Th.func49 (by kernel_rfl) rfl #[] rfl (by (try simp only [List.map_toArray, List.map_cons, List.map_nil]); first | done | rfl | (simp only [List.length_drop, List.length_take]; rfl)) ?_; (with_reducible refine (footwaylaw07_alive.calls kj27  true _ A59.out).mono ?_); rintro e w64 ⟨rfl, hb⟩; refine ⟨_, rfl, ?_⟩; have n0_ := Aside0.mk (Kd.V_below (by (with_reducible repeat (first | apply Kd.V_alloc | apply Kd.V_drewN | apply Kd.V_drew)); exact HO_2.out) hb); have n1_ := Aside0.mk (Kd.R_below (by (with_reducible repeat (first | apply Kd.R_alloc | apply Kd.R_drewN | apply Kd.R_drew)); exact HO_11.out) hb); have n2_ := Aside0.mk (below_step (by repeat (first | (with_reducible first | exact HB.out | apply below_alloc | apply pw_below_drewN | apply below_drew1) | exact HB.out)) hb); clear HO_2; clear HO_11; clear HB; have HO_2 := n0_; have HO_11 := n1_; have HB := n2_; clear n0_ n1_ n2_; (try clear hb); (try clear hb2); (try clear hk); (try clear hi); obtain ⟨Ao65, co65, eo65⟩ := Kd.R_slice HO_11.out; subst eo65))
           go_ret
           exact ⟨by first | rfl | (simp [errW_none, errW_some] <;> rfl) | (simp [*, errW_none, errW_some] <;> rfl), by repeat (first | (with_reducible first | exact HB.out | apply below_alloc | apply pw_below_drewN | apply below_drew1) | exact HB.out)⟩
          ·rw [if_neg c63] at H
           have c63b0 : ((t149.length : Int) == 0) = false := beq_eq_false_iff_ne.mpr c63
           have c63b1 : ((t149.length : Int) != 0) = true := bne_iff_ne.mpr c63
           have c63b2 : ¬ (t149 = []) := fun h_ => c63 (by rw [h_]; rfl)
           obtain rfl := Option.some.inj H
           go_wp2_with (first | ((with_reducible refine gate_callee (f := 51) rfl ?_); refine goesL_ (some 109) rfl rfl Th.func51 (by kernel_rfl) rfl #[.slice Ao14 t142.length co14] rfl (by (try simp only [List.map_toArray, List.map_cons, List.map_nil]); first | done | rfl | (simp only [List.length_drop, List.length_take]; rfl)) ?_; (with_reducible refine (footwayref07_All.calls kj27 _ _ t142 false _ ?side1 ?side2 A37.out).mono ?_); (case side1 => repeat (first | exact (Kd.V_reads' HO_2.out).2.2 | (with_reducible refine Kd.C_alloc ?_ _) | (with_reducible refine Kd.C_drewN ?_ _) | (with_reducible refine Kd.C_drew ?_))); (case side2 => exact (Kd.V_reads' HO_2.out).2.1); rintro e w' ⟨rfl, ⟨nd, rfl⟩⟩; refine ⟨_, rfl, ?_⟩) | ((with_reducible refine gate_callee (f := 49) rfl ?_); refine goesL_ (some 111) rfl rfl Th.func49 (by kernel_rfl) rfl #[] rfl (by (try simp only [List.map_toArray, List.map_cons, List.map_nil]); first | done | rfl | (simp only [List.length_drop, List.length_take]; rfl)) ?_; (with_reducible refine (footwaylaw07_alive.calls kj27  true _ A59.out).mono ?_); rintro e w66 ⟨rfl, hb⟩; refine ⟨_, rfl, ?_⟩; have n0_ := Aside0.mk (Kd.V_below (by (with_reducible repeat (first | apply Kd.V_alloc | apply Kd.V_drewN | apply Kd.V_drew)); exact HO_2.out) hb); have n1_ := Aside0.mk (Kd.R_below (by (with_reducible repeat (first | apply Kd.R_alloc | apply Kd.R_drewN | apply Kd.R_drew)); exact HO_11.out) hb); have n2_ := Aside0.mk (below_step (by repeat (first | (with_reducible first | exact HB.out | apply below_alloc | apply pw_below_drewN | apply below_drew1) | exact HB.out)) hb); clear HO_2; clear HO_11; clear HB; have HO_2 := n0_; have HO_11 := n1_; have HB := n2_; clear n0_ n1_ n2_; (try clear hb); (try clear hb2); (try clear hk); (try clear hi); obtain ⟨Ao67, co67, eo67⟩ := Kd.R_slice HO_11.out; subst eo67))
           go_ret
           exact ⟨by first | rfl | (simp [errW_none, errW_some] <;> rfl) | (simp [*, errW_none, errW_some] <;> rfl), by repeat (first | (with_reducible first | exact HB.out | apply below_alloc | apply pw_below_drewN | apply below_drew1) | exact HB.out)⟩
         ·rw [if_neg c62] at H
          have c62b0 : (t154 == 1) = false := beq_eq_false_iff_ne.mpr c62
          have c62b1 : (t154 != 1) = true := bne_iff_ne.mpr c62
          obtain rfl := Option.some.inj H
          go_wp2_with (first | ((with_reducible refine gate_callee (f := 51) rfl ?_); refine goesL_ (some 109) rfl rfl Th.func51 (by kernel_rfl) rfl #[.slice Ao14 t142.length co14] rfl (by (try simp only [List.map_toArray, List.map_cons, List.map_nil]); first | done | rfl | (simp only [List.length_drop, List.length_take]; rfl)) ?_; (with_reducible refine (footwayref07_All.calls kj27 _ _ t142 false _ ?side1 ?side2 A37.out).mono ?_); (case side1 => repeat (first | exact (Kd.V_reads' HO_2.out).2.2 | (with_reducible refine Kd.C_alloc ?_ _) | (with_reducible refine Kd.C_drewN ?_ _) | (with_reducible refine Kd.C_drew ?_))); (case side2 => exact (Kd.V_reads' HO_2.out).2.1); rintro e w' ⟨rfl, ⟨nd, rfl⟩⟩; refine ⟨_, rfl, ?_⟩) | ((with_reducible refine gate_callee (f := 49) rfl ?_); refine goesL_ (some 111) rfl rfl Th.func49 (by kernel_rfl) rfl #[] rfl (by (try simp only [List.map_toArray, List.map_cons, List.map_nil]); first | done | rfl | (simp only [List.length_drop, List.length_take]; rfl)) ?_; (with_reducible refine (footwaylaw07_alive.calls kj27  true _ A59.out).mono ?_); rintro e w68 ⟨rfl, hb⟩; refine ⟨_, rfl, ?_⟩; have n0_ := Aside0.mk (Kd.V_below (by (with_reducible repeat (first | apply Kd.V_alloc | apply Kd.V_drewN | apply Kd.V_drew)); exact HO_2.out) hb); have n1_ := Aside0.mk (Kd.R_below (by (with_reducible repeat (first | apply Kd.R_alloc | apply Kd.R_drewN | apply Kd.R_drew)); exact HO_11.out) hb); have n2_ := Aside0.mk (below_step (by repeat (first | (with_reducible first | exact HB.out | apply below_alloc | apply pw_below_drewN | apply below_drew1) | exact HB.out)) hb); clear HO_2; clear HO_11; clear HB; have HO_2 := n0_; have HO_11 := n1_; have HB := n2_; clear n0_ n1_ n2_; (try clear hb); (try clear hb2); (try clear hk); (try clear hi)))
          go_ret
          exact ⟨by first | rfl | (simp [errW_none, errW_some] <;> rfl) | (simp [*, errW_none, errW_some] <;> rfl), by repeat (first | (with_reducible first | exact HB.out | apply below_alloc | apply pw_below_drewN | apply below_drew1) | exact HB.out)⟩
        ·rw [if_neg c61] at H
         have c61b0 : (t150 == 1) = false := beq_eq_false_iff_ne.mpr c61
         have c61b1 : (t150 != 1) = true := bne_iff_ne.mpr c61
         obtain rfl := Option.some.inj H
         go_wp2_with (first | ((with_reducible refine gate_callee (f := 51) rfl ?_); refine goesL_ (some 109) rfl rfl Th.func51 (by kernel_rfl) rfl #[.slice Ao14 t142.length co14] rfl (by (try simp only [List.map_toArray, List.map_cons, List.map_nil]); first | done | rfl | (simp only [List.length_drop, List.length_take]; rfl)) ?_; (with_reducible refine (footwayref07_All.calls kj27 _ _ t142 false _ ?side1 ?side2 A37.out).mono ?_); (case side1 => repeat (first | exact (Kd.V_reads' HO_2.out).2.2 | (with_reducible refine Kd.C_alloc ?_ _) | (with_reducible refine Kd.C_drewN ?_ _) | (with_reducible refine Kd.C_drew ?_))); (case side2 => exact (Kd.V_reads' HO_2.out).2.1); rintro e w' ⟨rfl, ⟨nd, rfl⟩⟩; refine ⟨_, rfl, ?_⟩) | ((with_reducible refine gate_callee (f := 49) rfl ?_); refine goesL_ (some 111) rfl rfl Th.func49 (by kernel_rfl) rfl #[] rfl (by (try simp only [List.map_toArray, List.map_cons, List.map_nil]); first | done | rfl | (simp only [List.length_drop, List.length_take]; rfl)) ?_; (with_reducible refine (footwaylaw07_alive.calls kj27  true _ A59.out).mono ?_); rintro e w69 ⟨rfl, hb⟩; refine ⟨_, rfl, ?_⟩; have n0_ := Aside0.mk (Kd.V_below (by (with_reducible repeat (first | apply Kd.V_alloc | apply Kd.V_drewN | apply Kd.V_drew)); exact HO_2.out) hb); have n1_ := Aside0.mk (Kd.R_below (by (with_reducible repeat (first | apply Kd.R_alloc | apply Kd.R_drewN | apply Kd.R_drew)); exact HO_11.out) hb); have n2_ := Aside0.mk (below_step (by repeat (first | (with_reducible first | exact HB.out | apply below_alloc | apply pw_below_drewN | apply below_drew1) | exact HB.out)) hb); clear HO_2; clear HO_11; clear HB; have HO_2 := n0_; have HO_11 := n1_; have HB := n2_; clear n0_ n1_ n2_; (try clear hb); (try clear hb2); (try clear hk); (try clear hi)))
         go_ret
         exact ⟨by first | rfl | (simp [errW_none, errW_some] <;> rfl) | (simp [*, errW_none, errW_some] <;> rfl), by repeat (first | (with_reducible first | exact HB.out | apply below_alloc | apply pw_below_drewN | apply below_drew1) | exact HB.out)⟩
       ·replace c60 := Bool.eq_false_iff.mpr c60
        subst c60
        have H1 : (some false) = some r := by rw [if_neg (show ¬ (false = true) by decide)] at H; exact H
        clear H
        have H := H1
        clear H1
        obtain rfl := Option.some.inj H
        go_wp2_with (first | ((with_reducible refine gate_callee (f := 51) rfl ?_); refine goesL_ (some 109) rfl rfl Th.func51 (by kernel_rfl) rfl #[.slice Ao14 t142.length co14] rfl (by (try simp only [List.map_toArray, List.map_cons, List.map_nil]); first | done | rfl | (simp only [List.length_drop, List.length_take]; rfl)) ?_; (with_reducible refine (footwayref07_All.calls kj27 _ _ t142 false _ ?side1 ?side2 A37.out).mono ?_); (case side1 => repeat (first | exact (Kd.V_reads' HO_2.out).2.2 | (with_reducible refine Kd.C_alloc ?_ _) | (with_reducible refine Kd.C_drewN ?_ _) | (with_reducible refine Kd.C_drew ?_))); (case side2 => exact (Kd.V_reads' HO_2.out).2.1); rintro e w' ⟨rfl, ⟨nd, rfl⟩⟩; refine ⟨_, rfl, ?_⟩) | ((with_reducible refine gate_callee (f := 49) rfl ?_); refine goesL_ (some 111) rfl rfl Th.func49 (by kernel_rfl) rfl #[] rfl (by (try simp only [List.map_toArray, List.map_cons, List.map_nil]); first | done | rfl | (simp only [List.length_drop, List.length_take]; rfl)) ?_; (with_reducible refine (footwaylaw07_alive.calls kj27  false _ A59.out).mono ?_); rintro e w70 ⟨rfl, hb⟩; refine ⟨_, rfl, ?_⟩; have n0_ := Aside0.mk (Kd.V_below (by (with_reducible repeat (first | apply Kd.V_alloc | apply Kd.V_drewN | apply Kd.V_drew)); exact HO_2.out) hb); have n1_ := Aside0.mk (Kd.R_below (by (with_reducible repeat (first | apply Kd.R_alloc | apply Kd.R_drewN | apply Kd.R_drew)); exact HO_11.out) hb); have n2_ := Aside0.mk (below_step (by repeat (first | (with_reducible first | exact HB.out | apply below_alloc | apply pw_below_drewN | apply below_drew1) | exact HB.out)) hb); clear HO_2; clear HO_11; clear HB; have HO_2 := n0_; have HO_11 := n1_; have HB := n2_; clear n0_ n1_ n2_; (try clear hb); (try clear hb2); (try clear hk); (try clear hi)))
        go_ret
        exact ⟨by first | rfl | (simp [errW_none, errW_some] <;> rfl) | (simp [*, errW_none, errW_some] <;> rfl), by repeat (first | (with_reducible first | exact HB.out | apply below_alloc | apply pw_below_drewN | apply below_drew1) | exact HB.out)⟩
   ·replace c26 := Bool.eq_false_iff.mpr c26
    subst c26
    have H1 : ((footwaylaw07_alive.f kj9).bind fun t158 => (if t158 = true then (if t148 = 2 then (if t150 = 2 then (if t154 = 2 then (if t147 = 0 then (if (t149.length : Int) = 0 then (some (t153 == 0)) else (some false)) else (some false)) else (some false)) else (some false)) else (some false)) else (some false))) = some r := by rw [if_neg (show ¬ (false = true) by decide)] at H; exact H
    clear H
    have H := H1
    clear H1
    replace H := Option.bind_eq_some_iff.mp H
    obtain ⟨t158, A710, H⟩ := H
    replace H : (if t158 = true then (if t148 = 2 then (if t150 = 2 then (if t154 = 2 then (if t147 = 0 then (if (t149.length : Int) = 0 then (some (t153 == 0)) else (some false)) else (some false)) else (some false)) else (some false)) else (some false)) else (some false)) = some r := H
    have A71 := Aside0.mk A710
    clear A710
    by_cases c72 : t158 = true
    ·subst c72
     have H1 : (if t148 = 2 then (if t150 = 2 then (if t154 = 2 then (if t147 = 0 then (if (t149.length : Int) = 0 then (some (t153 == 0)) else (some false)) else (some false)) else (some false)) else (some false)) else (some false)) = some r := by rw [if_pos rfl] at H; exact H
     clear H
     have H := H1
     clear H1
     by_cases c73 : t148 = 2
     ·rw [if_pos c73] at H
      have c73b0 : (t148 == 2) = true := beq_iff_eq.mpr c73
      have c73b1 : (t148 != 2) = false := bne_eq_false_iff_eq.mpr c73
      clear c73
      by_cases c74 : t150 = 2
      ·rw [if_pos c74] at H
       have c74b0 : (t150 == 2) = true := beq_iff_eq.mpr c74
       have c74b1 : (t150 != 2) = false := bne_eq_false_iff_eq.mpr c74
       clear c74
       by_cases c75 : t154 = 2
       ·rw [if_pos c75] at H
        have c75b0 : (t154 == 2) = true := beq_iff_eq.mpr c75
        have c75b1 : (t154 != 2) = false := bne_eq_false_iff_eq.mpr c75
        clear c75
        by_cases c76 : t147 = 0
        ·rw [if_pos c76] at H
         have c76b0 : (t147 == 0) = true := beq_iff_eq.mpr c76
         have c76b1 : (t147 != 0) = false := bne_eq_false_iff_eq.mpr c76
         clear c76
         by_cases c77 : (t149.length : Int) = 0
         ·rw [if_pos c77] at H
          have c77b0 : ((t149.length : Int) == 0) = true := beq_iff_eq.mpr c77
          have c77b1 : ((t149.length : Int) != 0) = false := bne_eq_false_iff_eq.mpr c77
          clear c77
          obtain rfl := Option.some.inj H
          go_wp2_with (first | ((with_reducible refine gate_callee (f := 48) rfl ?_); refine goesL_ (some 62) rfl rfl Th.func48 (by kernel_rfl) rfl #[.int .i64 a1] rfl (by (try simp only [List.map_toArray, List.map_cons, List.map_nil]); first | done | rfl | (simp only [List.length_drop, List.length_take]; rfl)) ?_; (with_reducible refine (footwayref07_Number.calls a1 false _ A25.out).mono ?_); rintro e w' ⟨rfl, ⟨nd, rfl⟩⟩; refine ⟨_, rfl, ?_⟩) | ((with_reducible refine gate_callee (f := 49) rfl ?_); refine goesL_ (some 64) rfl rfl Th.func49 (by kernel_rfl) rfl #[] rfl (by (try simp only [List.map_toArray, List.map_cons, List.map_nil]); first | done | rfl | (simp only [List.length_drop, List.length_take]; rfl)) ?_; (with_reducible refine (footwaylaw07_alive.calls kj9  true _ A71.out).mono ?_); rintro e w78 ⟨rfl, hb⟩; refine ⟨_, rfl, ?_⟩; have n0_ := Aside0.mk (Kd.V_below (by (with_reducible repeat (first | apply Kd.V_alloc | apply Kd.V_drewN | apply Kd.V_drew)); exact HO_2.out) hb); have n1_ := Aside0.mk (Kd.R_below (by (with_reducible repeat (first | apply Kd.R_alloc | apply Kd.R_drewN | apply Kd.R_drew)); exact HO_11.out) hb); have n2_ := Aside0.mk (below_step (by repeat (first | (with_reducible first | exact HB.out | apply below_alloc | apply pw_below_drewN | apply below_drew1) | exact HB.out)) hb); clear HO_2; clear HO_11; clear HB; have HO_2 := n0_; have HO_11 := n1_; have HB := n2_; clear n0_ n1_ n2_; (try clear hb); (try clear hb2); (try clear hk); (try clear hi); obtain ⟨Ao79, co79, eo79⟩ := Kd.R_slice HO_11.out; subst eo79))
          go_ret
          exact ⟨by first | rfl | (simp [errW_none, errW_some] <;> rfl) | (simp [*, errW_none, errW_some] <;> rfl), by repeat (first | (with_reducible first | exact HB.out | apply below_alloc | apply pw_below_drewN | apply below_drew1) | exact HB.out)⟩
         ·rw [if_neg c77] at H
          have c77b0 : ((t149.length : Int) == 0) = false := beq_eq_false_iff_ne.mpr c77
          have c77b1 : ((t149.length : Int) != 0) = true := bne_iff_ne.mpr c77
          have c77b2 : ¬ (t149 = []) := fun h_ => c77 (by rw [h_]; rfl)
          obtain rfl := Option.some.inj H
          go_wp2_with (first | ((with_reducible refine gate_callee (f := 48) rfl ?_); refine goesL_ (some 62) rfl rfl Th.func48 (by kernel_rfl) rfl #[.int .i64 a1] rfl (by (try simp only [List.map_toArray, List.map_cons, List.map_nil]); first | done | rfl | (simp only [List.length_drop, List.length_take]; rfl)) ?_; (with_reducible refine (footwayref07_Number.calls a1 false _ A25.out).mono ?_); rintro e w' ⟨rfl, ⟨nd, rfl⟩⟩; refine ⟨_, rfl, ?_⟩) | ((with_reducible refine gate_callee (f := 49) rfl ?_); refine goesL_ (some 64) rfl rfl Th.func49 (by kernel_rfl) rfl #[] rfl (by (try simp only [List.map_toArray, List.map_cons, List.map_nil]); first | done | rfl | (simp only [List.length_drop, List.length_take]; rfl)) ?_; (with_reducible refine (footwaylaw07_alive.calls kj9  true _ A71.out).mono ?_); rintro e w80 ⟨rfl, hb⟩; refine ⟨_, rfl, ?_⟩; have n0_ := Aside0.mk (Kd.V_below (by (with_reducible repeat (first | apply Kd.V_alloc | apply Kd.V_drewN | apply Kd.V_drew)); exact HO_2.out) hb); have n1_ := Aside0.mk (Kd.R_below (by (with_reducible repeat (first | apply Kd.R_alloc | apply Kd.R_drewN | apply Kd.R_drew)); exact HO_11.out) hb); have n2_ := Aside0.mk (below_step (by repeat (first | (with_reducible first | exact HB.out | apply below_alloc | apply pw_below_drewN | apply below_drew1) | exact HB.out)) hb); clear HO_2; clear HO_11; clear HB; have HO_2 := n0_; have HO_11 := n1_; have HB := n2_; clear n0_ n1_ n2_; (try clear hb); (try clear hb2); (try clear hk); (try clear hi); obtain ⟨Ao81, co81, eo81⟩ := Kd.R_slice HO_11.out; subst eo81))
          go_ret
          exact ⟨by first | rfl | (simp [errW_none, errW_some] <;> rfl) | (simp [*, errW_none, errW_some] <;> rfl), by repeat (first | (with_reducible first | exact HB.out | apply below_alloc | apply pw_below_drewN | apply below_drew1) | exact HB.out)⟩
        ·rw [if_neg c76] at H
         have c76b0 : (t147 == 0) = false := beq_eq_false_iff_ne.mpr c76
         have c76b1 : (t147 != 0) = true := bne_iff_ne.mpr c76
         obtain rfl := Option.some.inj H
         go_wp2_with (first | ((with_reducible refine gate_callee (f := 48) rfl ?_); refine goesL_ (some 62) rfl rfl Th.func48 (by kernel_rfl) rfl #[.int .i64 a1] rfl (by (try simp only [List.map_toArray, List.map_cons, List.map_nil]); first | done | rfl | (simp only [List.length_drop, List.length_take]; rfl)) ?_; (with_reducible refine (footwayref07_Number.calls a1 false _ A25.out).mono ?_); rintro e w' ⟨rfl, ⟨nd, rfl⟩⟩; refine ⟨_, rfl, ?_⟩) | ((with_reducible refine gate_callee (f := 49) rfl ?_); refine goesL_ (some 64) rfl rfl Th.func49 (by kernel_rfl) rfl #[] rfl (by (try simp only [List.map_toArray, List.map_cons, List.map_nil]); first | done | rfl | (simp only [List.length_drop, List.length_take]; rfl)) ?_; (with_reducible refine (footwaylaw07_alive.calls kj9  true _ A71.out).mono ?_); rintro e w82 ⟨rfl, hb⟩; refine ⟨_, rfl, ?_⟩; have n0_ := Aside0.mk (Kd.V_below (by (with_reducible repeat (first | apply Kd.V_alloc | apply Kd.V_drewN | apply Kd.V_drew)); exact HO_2.out) hb); have n1_ := Aside0.mk (Kd.R_below (by (with_reducible repeat (first | apply Kd.R_alloc | apply Kd.R_drewN | apply Kd.R_drew)); exact HO_11.out) hb); have n2_ := Aside0.mk (below_step (by repeat (first | (with_reducible first | exact HB.out | apply below_alloc | apply pw_below_drewN | apply below_drew1) | exact HB.out)) hb); clear HO_2; clear HO_11; clear HB; have HO_2 := n0_; have HO_11 := n1_; have HB := n2_; clear n0_ n1_ n2_; (try clear hb); (try clear hb2); (try clear hk); (try clear hi)))
         go_ret
         exact ⟨by first | rfl | (simp [errW_none, errW_some] <;> rfl) | (simp [*, errW_none, errW_some] <;> rfl), by repeat (first | (with_reducible first | exact HB.out | apply below_alloc | apply pw_below_drewN | apply below_drew1) | exact HB.out)⟩
       ·rw [if_neg c75] at H
        have c75b0 : (t154 == 2) = false := beq_eq_false_iff_ne.mpr c75
        have c75b1 : (t154 != 2) = true := bne_iff_ne.mpr c75
        obtain rfl := Option.some.inj H
        go_wp2_with (first | ((with_reducible refine gate_callee (f := 48) rfl ?_); refine goesL_ (some 62) rfl rfl Th.func48 (by kernel_rfl) rfl #[.int .i64 a1] rfl (by (try simp only [List.map_toArray, List.map_cons, List.map_nil]); first | done | rfl | (simp only [List.length_drop, List.length_take]; rfl)) ?_; (with_reducible refine (footwayref07_Number.calls a1 false _ A25.out).mono ?_); rintro e w' ⟨rfl, ⟨nd, rfl⟩⟩; refine ⟨_, rfl, ?_⟩) | ((with_reducible refine gate_callee (f := 49) rfl ?_); refine goesL_ (some 64) rfl rfl Th.func49 (by kernel_rfl) rfl #[] rfl (by (try simp only [List.map_toArray, List.map_cons, List.map_nil]); first | done | rfl | (simp only [List.length_drop, List.length_take]; rfl)) ?_; (with_reducible refine (footwaylaw07_alive.calls kj9  true _ A71.out).mono ?_); rintro e w83 ⟨rfl, hb⟩; refine ⟨_, rfl, ?_⟩; have n0_ := Aside0.mk (Kd.V_below (by (with_reducible repeat (first | apply Kd.V_alloc | apply Kd.V_drewN | apply Kd.V_drew)); exact HO_2.out) hb); have n1_ := Aside0.mk (Kd.R_below (by (with_reducible repeat (first | apply Kd.R_alloc | apply Kd.R_drewN | apply Kd.R_drew)); exact HO_11.out) hb); have n2_ := Aside0.mk (below_step (by repeat (first | (with_reducible first | exact HB.out | apply below_alloc | apply pw_below_drewN | apply below_drew1) | exact HB.out)) hb); clear HO_2; clear HO_11; clear HB; have HO_2 := n0_; have HO_11 := n1_; have HB := n2_; clear n0_ n1_ n2_; (try clear hb); (try clear hb2); (try clear hk); (try clear hi)))
        go_ret
        exact ⟨by first | rfl | (simp [errW_none, errW_some] <;> rfl) | (simp [*, errW_none, errW_some] <;> rfl), by repeat (first | (with_reducible first | exact HB.out | apply below_alloc | apply pw_below_drewN | apply below_drew1) | exact HB.out)⟩
      ·rw [if_neg c74] at H
       have c74b0 : (t150 == 2) = false := beq_eq_false_iff_ne.mpr c74
       have c74b1 : (t150 != 2) = true := bne_iff_ne.mpr c74
       obtain rfl := Option.some.inj H
       go_wp2_with (first | ((with_reducible refine gate_callee (f := 48) rfl ?_); refine goesL_ (some 62) rfl rfl Th.func48 (by kernel_rfl) rfl #[.int .i64 a1] rfl (by (try simp only [List.map_toArray, List.map_cons, List.map_nil]); first | done | rfl | (simp only [List.length_drop, List.length_take]; rfl)) ?_; (with_reducible refine (footwayref07_Number.calls a1 false _ A25.out).mono ?_); rintro e w' ⟨rfl, ⟨nd, rfl⟩⟩; refine ⟨_, rfl, ?_⟩) | ((with_reducible refine gate_callee (f := 49) rfl ?_); refine goesL_ (some 64) rfl rfl Th.func49 (by kernel_rfl) rfl #[] rfl (by (try simp only [List.map_toArray, List.map_cons, List.map_nil]); first | done | rfl | (simp only [List.length_drop, List.length_take]; rfl)) ?_; (with_reducible refine (footwaylaw07_alive.calls kj9  true _ A71.out).mono ?_); rintro e w84 ⟨rfl, hb⟩; refine ⟨_, rfl, ?_⟩; have n0_ := Aside0.mk (Kd.V_below (by (with_reducible repeat (first | apply Kd.V_alloc | apply Kd.V_drewN | apply Kd.V_drew)); exact HO_2.out) hb); have n1_ := Aside0.mk (Kd.R_below (by (with_reducible repeat (first | apply Kd.R_alloc | apply Kd.R_drewN | apply Kd.R_drew)); exact HO_11.out) hb); have n2_ := Aside0.mk (below_step (by repeat (first | (with_reducible first | exact HB.out | apply below_alloc | apply pw_below_drewN | apply below_drew1) | exact HB.out)) hb); clear HO_2; clear HO_11; clear HB; have HO_2 := n0_; have HO_11 := n1_; have HB := n2_; clear n0_ n1_ n2_; (try clear hb); (try clear hb2); (try clear hk); (try clear hi)))
       go_ret
       exact ⟨by first | rfl | (simp [errW_none, errW_some] <;> rfl) | (simp [*, errW_none, errW_some] <;> rfl), by repeat (first | (with_reducible first | exact HB.out | apply below_alloc | apply pw_below_drewN | apply below_drew1) | exact HB.out)⟩
     ·rw [if_neg c73] at H
      have c73b0 : (t148 == 2) = false := beq_eq_false_iff_ne.mpr c73
      have c73b1 : (t148 != 2) = true := bne_iff_ne.mpr c73
      obtain rfl := Option.some.inj H
      go_wp2_with (first | ((with_reducible refine gate_callee (f := 48) rfl ?_); refine goesL_ (some 62) rfl rfl Th.func48 (by kernel_rfl) rfl #[.int .i64 a1] rfl (by (try simp only [List.map_toArray, List.map_cons, List.map_nil]); first | done | rfl | (simp only [List.length_drop, List.length_take]; rfl)) ?_; (with_reducible refine (footwayref07_Number.calls a1 false _ A25.out).mono ?_); rintro e w' ⟨rfl, ⟨nd, rfl⟩⟩; refine ⟨_, rfl, ?_⟩) | ((with_reducible refine gate_callee (f := 49) rfl ?_); refine goesL_ (some 64) rfl rfl Th.func49 (by kernel_rfl) rfl #[] rfl (by (try simp only [List.map_toArray, List.map_cons, List.map_nil]); first | done | rfl | (simp only [List.length_drop, List.length_take]; rfl)) ?_; (with_reducible refine (footwaylaw07_alive.calls kj9  true _ A71.out).mono ?_); rintro e w85 ⟨rfl, hb⟩; refine ⟨_, rfl, ?_⟩; have n0_ := Aside0.mk (Kd.V_below (by (with_reducible repeat (first | apply Kd.V_alloc | apply Kd.V_drewN | apply Kd.V_drew)); exact HO_2.out) hb); have n1_ := Aside0.mk (Kd.R_below (by (with_reducible repeat (first | apply Kd.R_alloc | apply Kd.R_drewN | apply Kd.R_drew)); exact HO_11.out) hb); have n2_ := Aside0.mk (below_step (by repeat (first | (with_reducible first | exact HB.out | apply below_alloc | apply pw_below_drewN | apply below_drew1) | exact HB.out)) hb); clear HO_2; clear HO_11; clear HB; have HO_2 := n0_; have HO_11 := n1_; have HB := n2_; clear n0_ n1_ n2_; (try clear hb); (try clear hb2); (try clear hk); (try clear hi)))
      go_ret
      exact ⟨by first | rfl | (simp [errW_none, errW_some] <;> rfl) | (simp [*, errW_none, errW_some] <;> rfl), by repeat (first | (with_reducible first | exact HB.out | apply below_alloc | apply pw_below_drewN | apply below_drew1) | exact HB.out)⟩
    ·replace c72 := Bool.eq_false_iff.mpr c72
     subst c72
     have H1 : (some false) = some r := by rw [if_neg (show ¬ (false = true) by decide)] at H; exact H
     clear H
     have H := H1
     clear H1
     obtain rfl := Option.some.inj H
     go_wp2_with (first | ((with_reducible refine gate_callee (f := 48) rfl ?_); refine goesL_ (some 62) rfl rfl Th.func48 (by kernel_rfl) rfl #[.int .i64 a1] rfl (by (try simp only [List.map_toArray, List.map_cons, List.map_nil]); first | done | rfl | (simp only [List.length_drop, List.length_take]; rfl)) ?_; (with_reducible refine (footwayref07_Number.calls a1 false _ A25.out).mono ?_); rintro e w' ⟨rfl, ⟨nd, rfl⟩⟩; refine ⟨_, rfl, ?_⟩) | ((with_reducible refine gate_callee (f := 49) rfl ?_); refine goesL_ (some 64) rfl rfl Th.func49 (by kernel_rfl) rfl #[] rfl (by (try simp only [List.map_toArray, List.map_cons, List.map_nil]); first | done | rfl | (simp only [List.length_drop, List.length_take]; rfl)) ?_; (with_reducible refine (footwaylaw07_alive.calls kj9  false _ A71.out).mono ?_); rintro e w86 ⟨rfl, hb⟩; refine ⟨_, rfl, ?_⟩; have n0_ := Aside0.mk (Kd.V_below (by (with_reducible repeat (first | apply Kd.V_alloc | apply Kd.V_drewN | apply Kd.V_drew)); exact HO_2.out) hb); have n1_ := Aside0.mk (Kd.R_below (by (with_reducible repeat (first | apply Kd.R_alloc | apply Kd.R_drewN | apply Kd.R_drew)); exact HO_11.out) hb); have n2_ := Aside0.mk (below_step (by repeat (first | (with_reducible first | exact HB.out | apply below_alloc | apply pw_below_drewN | apply below_drew1) | exact HB.out)) hb); clear HO_2; clear HO_11; clear HB; have HO_2 := n0_; have HO_11 := n1_; have HB := n2_; clear n0_ n1_ n2_; (try clear hb); (try clear hb2); (try clear hk); (try clear hi)))
     go_ret
     exact ⟨by first | rfl | (simp [errW_none, errW_some] <;> rfl) | (simp [*, errW_none, errW_some] <;> rfl), by repeat (first | (with_reducible first | exact HB.out | apply below_alloc | apply pw_below_drewN | apply below_drew1) | exact HB.out)⟩
def footwaylaw07_HashTells.Pure : Prop := ∀ (a0 : Int) (a1 : Int) (l2 : List Int), (Lit.int .i64 a0).wf = true → (Lit.int .i64 a1).wf = true → l2.length ≤ maxLen → l2.length * 8 ≤ 140737488351232 → (∀ x ∈ l2, (Lit.int .i64 x).wf = true) → ∃ k, footwaylaw07_HashTells.f k a0 a1 l2 = some true
theorem footwaylaw07_HashTells.walk (P : footwaylaw07_HashTells.Pure) (a0 : Int) (a1 : Int) (a2 : Option Addr) (len2 cap2 : Nat) (z2 : List Int) (w : World) (w0 : (Lit.int .i64 a0).wf = true) (w1 : (Lit.int .i64 a1).wf = true) (w2 : (a2 = none ∧ len2 = 0 ∧ cap2 = 0 ∧ z2 = []) ∨ ∃ x, a2 = some x ∧ len2 ≤ cap2 ∧ cap2 ≤ maxLen ∧ z2.length = cap2 ∧ (∀ i, i < z2.length → w.cell? (x.add i) = some (.int .i64 (z2.getD i 0))) ∧ ∀ n ∈ z2, (Lit.int .i64 n).wf = true) (y2 : len2 * 8 ≤ 140737488351232) :
  Calls Th.prog 11 #[.int .i64 a0, .int .i64 a1, .slice a2 len2 cap2] w fun e w' => e = .returned (.bool true) ∧ Below w.heap.size w w' := by
 obtain ⟨l2, rfl, hr2, hm2, hw2, hc2⟩ := ReadsInt.ofRowC w2
 obtain ⟨k, h⟩ := P a0 a1 l2 w0 w1 hm2 y2 hw2
 refine (footwaylaw07_HashTells.calls k a0 a1 _ _ l2 true w (Kd.C_of_reads (d := (0 : Int)) (h1 := fun _ => rfl) hr2) hc2 h).mono ?_
 rintro e w' ⟨rfl, hd⟩
 exact ⟨rfl, hd⟩
end Go.Proofs.Ytnikfjfcbpeieaa.PHp
end
section
namespace Go.Proofs.Ytnikfjfcbpeieaa.Pure
open Go.RowKit Go.Proofs.Ytnikfjfcbpeieaa.PHp Go.Proofs.Ytnikfjfcbpeieaa.HP Go.Proofs.Ytnikfjfcbpeieaa.EHa Go.Proofs.YtnikfjfcbpeieaaW.PrintWords Go.Proofs.YtnikfjfcbpeieaaW.PrintLast Go.Proofs.YtnikfjfcbpeieaaW.PrintMore
set_option linter.unusedVariables false
set_option linter.unusedSimpArgs false
theorem tells_l (c : List Int) (hc : c.length ≤ 16) (m : Int) (l' : List Int) : ∀ (p K : Nat) (x : Int), c.drop p = l' → l'.length + 50 ≤ K → footwaylaw07_HashTells.l0 K c 0 m 0 c x c (c.length : Int) (p : Int) = some (m == l'.foldl mx x) := by
 induction l' with
 | nil =>
  intro p K x hp hK
  obtain ⟨k, rfl⟩ : ∃ k, K = k + 1 := ⟨K - 1, by omega⟩
  have hle : c.length ≤ p := by simpa using hp
  rw [List.length_nil] at hK
  rw [footwaylaw07_HashTells.l0, if_neg (by omega), alive_yes k (by omega), Option.bind_some, if_pos rfl, if_pos rfl, if_pos rfl, rSame c (by omega) k (by omega), Option.bind_some, if_pos rfl, List.foldl_nil]
 | cons y l' ih =>
  intro p K x hp hK
  obtain ⟨k, rfl⟩ : ∃ k, K = k + 1 := ⟨K - 1, by omega⟩
  obtain ⟨h1, h2, h3⟩ := get_drop hp
  rw [List.length_cons] at hK
  rw [footwaylaw07_HashTells.l0, if_pos (by omega), if_pos (by omega), if_pos (by omega), h2, w1 (by omega), ih (p + 1) k _ h3 (by omega), List.foldl_cons]
theorem tells_ok {l : List Int} (hl : l.length ≤ 60) (hr : l.all Hk.rightB = true) {n : Nat} (hn : Hk.numB n = true) (hn2 : n ≤ 16) (K : Nat) (hK : 1300 ≤ K) : footwaylaw07_HashTells.j1 K n l (cnts l n n) 0 (most (cnts l n n)) 0 = some true := by
 obtain ⟨k, rfl⟩ : ∃ k, K = k + 1 := ⟨K - 1, by omega⟩
 rw [footwaylaw07_HashTells.j1, rAll (by omega) k (by omega), hr, Option.bind_some, if_pos rfl, rSpread hl hr hn hn2 k (by omega), Option.bind_some]
 have h := tells_l (cnts l n n) (by rw [cnts_length]; exact hn2) (most (cnts l n n)) (cnts l n n) 0 k 0 rfl (by rw [cnts_length]; omega)
 rw [show (0 : Int) = ((0 : Nat) : Int) from rfl] at h
 refine h.trans ?_
 unfold most
 simp
theorem tells_bad {l : List Int} (hl : l.length ≤ 60) (hr : l.all Hk.rightB = false) (n : Int) (K : Nat) (hK : 1300 ≤ K) : footwaylaw07_HashTells.j1 K n l [] 1 0 1 = some true := by
 obtain ⟨k, rfl⟩ : ∃ k, K = k + 1 := ⟨K - 1, by omega⟩
 rw [footwaylaw07_HashTells.j1, rAll (by omega) k (by omega), hr, Option.bind_some, if_neg (by decide), alive_yes k (by omega), Option.bind_some, if_pos rfl, if_pos rfl, if_pos rfl]
 simp
theorem tells_j0 {a n : Int} {l : List Int} (hl : l.length ≤ 60) {b e : Int} {w : List Int} {g m h : Int} (K : Nat) (hK : 1400 ≤ K) (hb : hash_Bucket.f K a n = some (b, e)) (hs : hash_Spread.f l n = some (w, g)) (hc : hash_Crowd.f l n = some (m, h)) :
  footwaylaw07_HashTells.j0 K a n l b e w g m h = some true := by
 obtain ⟨k, rfl⟩ : ∃ k, K = k + 1 := ⟨K - 1, by omega⟩
 cases hn : Hk.numB n with
 | false =>
  rw [hBucket_no (k + 1) hn] at hb
  rw [sprNo (by omega) hn] at hs
  rw [crowdNo (by omega) hn] at hc
  simp only [Option.some.injEq, Prod.mk.injEq] at hb hs hc
  obtain ⟨rfl, rfl⟩ := hb
  obtain ⟨rfl, rfl⟩ := hs
  obtain ⟨rfl, rfl⟩ := hc
  rw [footwaylaw07_HashTells.j0, rNumber, hn, Option.bind_some, if_neg (by decide), alive_yes k (by omega), Option.bind_some, if_pos rfl, if_pos rfl, if_pos rfl, if_pos rfl, if_pos rfl]
  simp
 | true =>
  obtain ⟨n, rfl, hn'⟩ := Hk.numB_nat hn
  have j1 : footwaylaw07_HashTells.j1 k n l w g m h = some true := by
   cases hr : l.all Hk.rightB with
   | true =>
    rw [sprOk (by omega) hr hn'] at hs
    rw [crowdOk (by omega) hr hn'] at hc
    simp only [Option.some.injEq, Prod.mk.injEq] at hs hc
    obtain ⟨rfl, rfl⟩ := hs
    obtain ⟨rfl, rfl⟩ := hc
    exact tells_ok hl hr hn (by omega) k (by omega)
   | false =>
    rw [sprBad (by omega) hr hn] at hs
    rw [crowdBad (by omega) hr hn] at hc
    simp only [Option.some.injEq, Prod.mk.injEq] at hs hc
    obtain ⟨rfl, rfl⟩ := hs
    obtain ⟨rfl, rfl⟩ := hc
    exact tells_bad hl hr n k (by omega)
  rw [footwaylaw07_HashTells.j0, rNumber, hn, Option.bind_some, if_pos rfl, rRight, Option.bind_some]
  cases ha : Hk.rightB a with
  | true =>
   obtain ⟨k7, hk7⟩ : ∃ k7, k + 1 = k7 + 7 := ⟨k - 6, by omega⟩
   rw [hk7, hBucket k7 ha hn] at hb
   simp only [Option.some.injEq, Prod.mk.injEq] at hb
   obtain ⟨rfl, rfl⟩ := hb
   rw [if_pos rfl, if_pos rfl, rBucket k (by omega) ha hn, Option.bind_some, if_pos rfl, j1]
  | false =>
   rw [hBucket_bad (k + 1) ha hn] at hb
   simp only [Option.some.injEq, Prod.mk.injEq] at hb
   obtain ⟨rfl, rfl⟩ := hb
   rw [if_neg (by decide), if_pos rfl, if_pos rfl, j1]
theorem bucket_some (K : Nat) (hK : 7 ≤ K) (a n : Int) : ∃ b e, hash_Bucket.f K a n = some (b, e) := by
 obtain ⟨k, rfl⟩ : ∃ k, K = k + 7 := ⟨K - 7, by omega⟩
 cases hn : Hk.numB n with
 | false => exact ⟨_, _, hBucket_no _ hn⟩
 | true =>
  cases ha : Hk.rightB a with
  | true => exact ⟨_, _, hBucket k ha hn⟩
  | false => exact ⟨_, _, hBucket_bad _ ha hn⟩
theorem spread_some {l : List Int} (hl : l.length ≤ 1000) (n : Int) : ∃ w g, hash_Spread.f l n = some (w, g) ∧ ∃ m h, hash_Crowd.f l n = some (m, h) := by
 cases hn : Hk.numB n with
 | false => exact ⟨_, _, sprNo hl hn, _, _, crowdNo hl hn⟩
 | true =>
  obtain ⟨n, rfl, hn'⟩ := Hk.numB_nat hn
  cases hr : l.all Hk.rightB with
  | true => exact ⟨_, _, sprOk hl hr hn', _, _, crowdOk hl hr hn'⟩
  | false => exact ⟨_, _, sprBad hl hr hn, _, _, crowdBad hl hr hn⟩
theorem tells_all {a n : Int} {l : List Int} (hl : l.length ≤ 1000000000000000) (K : Nat) (hK : 1400 ≤ K) : footwaylaw07_HashTells.f K a n l = some true := by
 have ht : (l.take 60).length ≤ 60 := by rw [List.length_take]; omega
 obtain ⟨b, e, hb⟩ := bucket_some K (by omega) a n
 obtain ⟨w, g, hs, m, h, hc⟩ := spread_some (l := l.take 60) (by omega) n
 have hj := tells_j0 ht K hK hb hs hc
 unfold footwaylaw07_HashTells.f
 rw [few_eq l hl, Option.bind_some]
 cases ha : Hk.rightB a with
 | true =>
  obtain ⟨h0, h1⟩ := (rightB_iff a).1 ha
  have e1 : hash_Sum.f K a = some (Hk.sumx a, 0) := by
   obtain ⟨k7, rfl⟩ : ∃ k7, K = k7 + 7 := ⟨K - 7, by omega⟩
   exact hSum h0 h1 k7
  rw [e1, Option.bind_some, hb, Option.bind_some, hs, Option.bind_some, hc, Option.bind_some, rRight, ha, Option.bind_some, if_pos rfl, if_pos rfl, rSum h0 h1 K (by omega), Option.bind_some, if_pos rfl]
  exact hj
 | false =>
  have hn : ¬ (0 ≤ a ∧ a ≤ 281474976710655) := fun h => by rw [(rightB_iff a).2 h] at ha; cases ha
  rw [hSum_no hn K, Option.bind_some, hb, Option.bind_some, hs, Option.bind_some, hc, Option.bind_some, rRight, ha, Option.bind_some, if_neg (by decide), if_pos rfl, if_pos rfl]
  exact hj
theorem HashTells : footwaylaw07_HashTells.Pure := by
 intro a0 a1 l2 _ _ _ h _
 exact ⟨1400, tells_all (by omega) 1400 (by omega)⟩
end Go.Proofs.Ytnikfjfcbpeieaa.Pure
end
