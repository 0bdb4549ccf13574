/- HashHalves: whatever the input, the law answers true (in plain numbers). -/
import Derived.Test.YtnikfjfcbpeieaaMK0
import Derived.Test.YtnikfjfcbpeieaaMT1
import Derived.Test.YtnikfjfcbpeieaaMT2
import Derived.Test.YtnikfjfcbpeieaaMK2
import Derived.Test.YtnikfjfcbpeieaaMV
section
namespace Go.Proofs.Ytnikfjfcbpeieaa.PHp
open Go.RowKit Go.Proofs.Ytnikfjfcbpeieaa.EHa Go.Proofs.YtnikfjfcbpeieaaW.PrintWords Go.Proofs.YtnikfjfcbpeieaaW.PrintLast Go.Proofs.YtnikfjfcbpeieaaW.PrintMore
attribute [local go_sem] max2_int min2_int max_two min_two max_three min_three max_four min_four   -- for this text's walks alone
set_option linter.unusedVariables false
set_option linter.unusedSimpArgs false
mutual
def footwaylaw07_HashHalves.j0 : Nat → List Int → Int → Int → List Int → List Int → Bool → Option (Bool)
 | 0, _, _, _, _, _, _ => none
 | k + 1, x0, x2, x7, x8, x10, x67 => if x67 = true then (some false) else (footwaylaw07_HashHalves.l0 k x0 x2 x7 x8 0 x10 (x10.length : Int) 0)
def footwaylaw07_HashHalves.l0 : Nat → List Int → Int → Int → List Int → Int → List Int → Int → Int → Option (Bool)
 | 0, _, _, _, _, _, _, _, _ => none
 | k + 1, x0, x2, x7, x8, x12, x68, x69, x70 => if x70 < x69 then (if 0 ≤ x70 then (if x70 < (x68.length : Int) then (if x70 < (x8.length : Int) then (if 0 ≤ (wrap64 (x70 + (wrap64 (Int.tdiv x7 2)))) then (if (wrap64 (x70 + (wrap64 (Int.tdiv x7 2)))) < (x8.length : Int) then (if (rd x68 x70) = (wrap64 ((rd x8 x70) + (rd x8 (wrap64 (x70 + (wrap64 (Int.tdiv x7 2))))))) then (footwaylaw07_HashHalves.l0 k x0 x2 x7 x8 (wrap64 (x12 + (rd x68 x70))) x68 x69 (wrap64 (x70 + 1))) else (some false)) else (none)) else (none)) else (none)) else (none)) else (none)) else (if x12 = (x0.length : Int) then (if (x0.length : Int) > 0 then (if (x0.length : Int) = 0 then (none) else ((some (([] : List Int) : List Int)).bind fun y185 => (if 0 ≤ (Int.tmod (wrap64 ((Int.tmod x2 (x0.length : Int)) + (x0.length : Int))) (x0.length : Int)) then (if (Int.tmod (wrap64 ((Int.tmod x2 (x0.length : Int)) + (x0.length : Int))) (x0.length : Int)) ≤ (x0.length : Int) then ((some (x0.drop ((Int.tmod (wrap64 ((Int.tmod x2 (x0.length : Int)) + (x0.length : Int))) (x0.length : Int)) : Int).toNat : List Int)).bind fun y188 => (if y185.length + y188.length < 17592186044416 then ((some (y185 ++ y188 : List Int)).bind fun y193 => ((some (x0.take ((Int.tmod (wrap64 ((Int.tmod x2 (x0.length : Int)) + (x0.length : Int))) (x0.length : Int)) : Int).toNat : List Int)).bind fun y196 => (if y193.length + y196.length < 17592186044416 then ((hash_Spread.f (y193 ++ y196) x7).bind fun bt204 => (if bt204.2 = 0 then ((footwayref06_Same.f k x8 bt204.1).bind fun t208 => (some t208)) else (some false))) else (none)))) else (none))) else (none)) else (none)))) else ((some (([] : List Int) : List Int)).bind fun y209 => (if 0 ≤ (x0.length : Int) then ((some (x0.drop 0 : List Int)).bind fun y212 => (if y209.length + y212.length < 17592186044416 then ((some (y209 ++ y212 : List Int)).bind fun y217 => ((some (x0.take 0 : List Int)).bind fun y220 => (if y217.length + y220.length < 17592186044416 then ((hash_Spread.f (y217 ++ y220) x7).bind fun bt228 => (if bt228.2 = 0 then ((footwayref06_Same.f k x8 bt228.1).bind fun t232 => (some t232)) else (some false))) else (none)))) else (none))) else (none)))) else (some false))
end
def footwaylaw07_HashHalves.f (k : Nat) (l0 : List Int) (a1 : Int) (a2 : Int) : Option (Bool) := if 0 ≤ (Int.tmod (wrap64 ((Int.tmod a1 4) + 4)) 4) then ((footwaylaw07_few.f l0).bind fun t169 => ((hash_Spread.f t169 (shl .i64 2 (Int.tmod (wrap64 ((Int.tmod a1 4) + 4)) 4))).bind fun bt172 => ((hash_Spread.f t169 (wrap64 (Int.tdiv (shl .i64 2 (Int.tmod (wrap64 ((Int.tmod a1 4) + 4)) 4)) 2))).bind fun bt176 => (if bt172.2 = 0 then (if bt176.2 = 0 then (if (bt172.1.length : Int) = (shl .i64 2 (Int.tmod (wrap64 ((Int.tmod a1 4) + 4)) 4)) then (if (bt176.1.length : Int) = (wrap64 (Int.tdiv (shl .i64 2 (Int.tmod (wrap64 ((Int.tmod a1 4) + 4)) 4)) 2)) then ((footwaylaw07_alive.f k).bind fun t181 => (footwaylaw07_HashHalves.j0 k t169 a2 (shl .i64 2 (Int.tmod (wrap64 ((Int.tmod a1 4) + 4)) 4)) bt172.1 bt176.1 (!t181))) else (footwaylaw07_HashHalves.j0 k t169 a2 (shl .i64 2 (Int.tmod (wrap64 ((Int.tmod a1 4) + 4)) 4)) bt172.1 bt176.1 true)) else (footwaylaw07_HashHalves.j0 k t169 a2 (shl .i64 2 (Int.tmod (wrap64 ((Int.tmod a1 4) + 4)) 4)) bt172.1 bt176.1 true)) else (footwaylaw07_HashHalves.j0 k t169 a2 (shl .i64 2 (Int.tmod (wrap64 ((Int.tmod a1 4) + 4)) 4)) bt172.1 bt176.1 true)) else ((footwaylaw07_alive.f k).bind fun t180 => (if t180 = true then (if bt172.2 = 1 then (some (bt176.2 == bt172.2)) else (some false)) else (some false))))))) else (none)
def footwaylaw07_HashHalves.T13 : Bool × List (List Nat × List Nat) := (true, [([], []), ([], []), ([], []), ([1, 2], [1, 2]), ([3], [3]), ([], []), ([], []), ([], []), ([7], [7]), ([6, 8], [6, 8]), ([5, 9], [5, 9]), ([10], [10]), ([4, 11], [4, 11]), ([0, 12], [0, 12])])
def footwaylaw07_HashHalves.B13 : List Nat := [0, 0, 0, 6, 14, 0, 0, 0, 128, 448, 992, 2016, 4094, 8191]
theorem footwaylaw07_HashHalves.tab13 : rtab .any (opsOf Try.f12 13) = footwaylaw07_HashHalves.T13 := by kernel_rfl
theorem footwaylaw07_HashHalves.bits13 : waitsOk footwaylaw07_HashHalves.T13.2 footwaylaw07_HashHalves.B13 = true := by kernel_rfl
def footwaylaw07_HashHalves.T22 : Bool × List (List Nat × List Nat) := (true, [([], []), ([], []), ([], []), ([1, 2], [1, 2]), ([0, 3], [0, 3]), ([], []), ([], []), ([5, 6], [5, 6]), ([4, 7, 4], [4, 7]), ([], []), ([8, 9, 8], [8, 9]), ([10], [10]), ([11], [11]), ([11], [11]), ([12, 10, 0, 1, 2, 3, 4, 5, 6, 7, 8, 9, 10, 11, 12], [12]), ([13, 14, 0, 1, 2, 3, 4, 5, 6, 7, 8, 9, 10, 11, 12, 13, 14], [13])])
def footwaylaw07_HashHalves.B22 : List Nat := [0, 0, 0, 6, 15, 0, 0, 96, 255, 0, 1023, 2047, 4095, 4095, 8191, 32767]
theorem footwaylaw07_HashHalves.tab22 : rtab .any (opsOf Try.f12 22) = footwaylaw07_HashHalves.T22 := by kernel_rfl
theorem footwaylaw07_HashHalves.bits22 : waitsOk footwaylaw07_HashHalves.T22.2 footwaylaw07_HashHalves.B22 = true := by kernel_rfl
set_option maxHeartbeats 8000000 in
set_option maxRecDepth 100000 in
theorem footwaylaw07_HashHalves.calls (k : Nat) (A0 : Option Addr) (c0 : Nat) (l0 : List Int) (a1 : Int) (a2 : Int) (r : Bool) (w : World) (hr0 : Kd.C (Kd.int .i64) w A0 l0.length l0) (hc0 : l0.length ≤ c0) (h : footwaylaw07_HashHalves.f k l0 a1 a2 = some r) :
  Calls Th.prog 12 #[.slice A0 l0.length c0, .int .i64 a1, .int .i64 a2] w fun e w' => e = .returned (.bool r) ∧ Below w.heap.size w w' := by
 have HR0 := Aside0.mk hr0
 have HC0 := Aside0.mk hc0
 clear hr0 hc0
 have HB := Aside0.mk (Below.refl w.heap.size w)
 have H : (if 0 ≤ (Int.tmod (wrap64 ((Int.tmod a1 4) + 4)) 4) then ((footwaylaw07_few.f l0).bind fun t169 => ((hash_Spread.f t169 (shl .i64 2 (Int.tmod (wrap64 ((Int.tmod a1 4) + 4)) 4))).bind fun bt172 => ((hash_Spread.f t169 (wrap64 (Int.tdiv (shl .i64 2 (Int.tmod (wrap64 ((Int.tmod a1 4) + 4)) 4)) 2))).bind fun bt176 => (if bt172.2 = 0 then (if bt176.2 = 0 then (if (bt172.1.length : Int) = (shl .i64 2 (Int.tmod (wrap64 ((Int.tmod a1 4) + 4)) 4)) then (if (bt176.1.length : Int) = (wrap64 (Int.tdiv (shl .i64 2 (Int.tmod (wrap64 ((Int.tmod a1 4) + 4)) 4)) 2)) then ((footwaylaw07_alive.f k).bind fun t181 => (footwaylaw07_HashHalves.j0 k t169 a2 (shl .i64 2 (Int.tmod (wrap64 ((Int.tmod a1 4) + 4)) 4)) bt172.1 bt176.1 (!t181))) else (footwaylaw07_HashHalves.j0 k t169 a2 (shl .i64 2 (Int.tmod (wrap64 ((Int.tmod a1 4) + 4)) 4)) bt172.1 bt176.1 true)) else (footwaylaw07_HashHalves.j0 k t169 a2 (shl .i64 2 (Int.tmod (wrap64 ((Int.tmod a1 4) + 4)) 4)) bt172.1 bt176.1 true)) else (footwaylaw07_HashHalves.j0 k t169 a2 (shl .i64 2 (Int.tmod (wrap64 ((Int.tmod a1 4) + 4)) 4)) bt172.1 bt176.1 true)) else ((footwaylaw07_alive.f k).bind fun t180 => (if t180 = true then (if bt172.2 = 1 then (some (bt176.2 == bt172.2)) else (some false)) else (some false))))))) else (none)) = some r := h
 clear h
 obtain ⟨ji4, hji4⟩ : ∃ j_ : Int, (Int.tmod (wrap64 ((Int.tmod a1 4) + 4)) 4) = j_ := ⟨_, rfl⟩
 replace H : (if 0 ≤ (ji4) then ((footwaylaw07_few.f l0).bind fun t169 => ((hash_Spread.f t169 (shl .i64 2 (ji4))).bind fun bt172 => ((hash_Spread.f t169 (wrap64 (Int.tdiv (shl .i64 2 (ji4)) 2))).bind fun bt176 => (if bt172.2 = 0 then (if bt176.2 = 0 then (if (bt172.1.length : Int) = (shl .i64 2 (ji4)) then (if (bt176.1.length : Int) = (wrap64 (Int.tdiv (shl .i64 2 (ji4)) 2)) then ((footwaylaw07_alive.f k).bind fun t181 => (footwaylaw07_HashHalves.j0 k t169 a2 (shl .i64 2 (ji4)) bt172.1 bt176.1 (!t181))) else (footwaylaw07_HashHalves.j0 k t169 a2 (shl .i64 2 (ji4)) bt172.1 bt176.1 true)) else (footwaylaw07_HashHalves.j0 k t169 a2 (shl .i64 2 (ji4)) bt172.1 bt176.1 true)) else (footwaylaw07_HashHalves.j0 k t169 a2 (shl .i64 2 (ji4)) bt172.1 bt176.1 true)) else ((footwaylaw07_alive.f k).bind fun t180 => (if t180 = true then (if bt172.2 = 1 then (some (bt176.2 == bt172.2)) else (some false)) else (some false))))))) else (none)) = some r := by first | (rw [hji4] at H; exact H) | (simp only [hji4] at H ⊢; exact H)
 by_cases c5 : 0 ≤ (ji4)
 ·rw [if_pos c5] at H
  have c5b0 := eq_true c5
  have c5b1 : decide (0 ≤ (ji4)) = true := decide_eq_true c5
  clear c5
  obtain ⟨ji6, hji6⟩ : ∃ j_ : Int, (shl .i64 2 (ji4)) = j_ := ⟨_, rfl⟩
  replace H : ((footwaylaw07_few.f l0).bind fun t169 => ((hash_Spread.f t169 (ji6)).bind fun bt172 => ((hash_Spread.f t169 (wrap64 (Int.tdiv (ji6) 2))).bind fun bt176 => (if bt172.2 = 0 then (if bt176.2 = 0 then (if (bt172.1.length : Int) = (ji6) then (if (bt176.1.length : Int) = (wrap64 (Int.tdiv (ji6) 2)) then ((footwaylaw07_alive.f k).bind fun t181 => (footwaylaw07_HashHalves.j0 k t169 a2 ji6 bt172.1 bt176.1 (!t181))) else (footwaylaw07_HashHalves.j0 k t169 a2 ji6 bt172.1 bt176.1 true)) else (footwaylaw07_HashHalves.j0 k t169 a2 ji6 bt172.1 bt176.1 true)) else (footwaylaw07_HashHalves.j0 k t169 a2 ji6 bt172.1 bt176.1 true)) else ((footwaylaw07_alive.f k).bind fun t180 => (if t180 = true then (if bt172.2 = 1 then (some (bt176.2 == bt172.2)) else (some false)) else (some false))))))) = some r := by first | (rw [hji6] at H; exact H) | (simp only [hji6] at H ⊢; exact H)
  have hji6_ : (IntKind.i64.wrap (2 * 2 ^ min (ji4).toNat 64)) = ji6 := hji6
  have hji6z : (ji4) ≤ 64 → (IntKind.i64.wrap (2 * 2 ^ (ji4).toNat)) = ji6 := shl_small hji6
  have hji6y : (wrap64 (2 * 2 ^ min (ji4).toNat 64)) = ji6 := (i64_w _).symm.trans hji6_
  have hji6x : (ji4) ≤ 64 → (wrap64 (2 * 2 ^ (ji4).toNat)) = ji6 := fun h_ => (i64_w _).symm.trans (hji6z h_)
  replace H := Option.bind_eq_some_iff.mp H
  obtain ⟨t169, A70, H⟩ := H
  replace H : ((hash_Spread.f t169 (ji6)).bind fun bt172 => ((hash_Spread.f t169 (wrap64 (Int.tdiv (ji6) 2))).bind fun bt176 => (if bt172.2 = 0 then (if bt176.2 = 0 then (if (bt172.1.length : Int) = (ji6) then (if (bt176.1.length : Int) = (wrap64 (Int.tdiv (ji6) 2)) then ((footwaylaw07_alive.f k).bind fun t181 => (footwaylaw07_HashHalves.j0 k t169 a2 ji6 bt172.1 bt176.1 (!t181))) else (footwaylaw07_HashHalves.j0 k t169 a2 ji6 bt172.1 bt176.1 true)) else (footwaylaw07_HashHalves.j0 k t169 a2 ji6 bt172.1 bt176.1 true)) else (footwaylaw07_HashHalves.j0 k t169 a2 ji6 bt172.1 bt176.1 true)) else ((footwaylaw07_alive.f k).bind fun t180 => (if t180 = true then (if bt172.2 = 1 then (some (bt176.2 == bt172.2)) else (some false)) else (some false)))))) = some r := H
  have A7 := Aside0.mk A70
  clear A70
  replace H := Option.bind_eq_some_iff.mp H
  obtain ⟨⟨t172, t173⟩, A80, H⟩ := H
  replace H : ((hash_Spread.f t169 (wrap64 (Int.tdiv (ji6) 2))).bind fun bt176 => (if t173 = 0 then (if bt176.2 = 0 then (if (t172.length : Int) = (ji6) then (if (bt176.1.length : Int) = (wrap64 (Int.tdiv (ji6) 2)) then ((footwaylaw07_alive.f k).bind fun t181 => (footwaylaw07_HashHalves.j0 k t169 a2 ji6 t172 bt176.1 (!t181))) else (footwaylaw07_HashHalves.j0 k t169 a2 ji6 t172 bt176.1 true)) else (footwaylaw07_HashHalves.j0 k t169 a2 ji6 t172 bt176.1 true)) else (footwaylaw07_HashHalves.j0 k t169 a2 ji6 t172 bt176.1 true)) else ((footwaylaw07_alive.f k).bind fun t180 => (if t180 = true then (if t173 = 1 then (some (bt176.2 == t173)) else (some false)) else (some false))))) = some r := H
  have A8 := Aside0.mk A80
  clear A80
  replace H := Option.bind_eq_some_iff.mp H
  obtain ⟨⟨t176, t177⟩, A90, H⟩ := H
  replace H : (if t173 = 0 then (if t177 = 0 then (if (t172.length : Int) = (ji6) then (if (t176.length : Int) = (wrap64 (Int.tdiv (ji6) 2)) then ((footwaylaw07_alive.f k).bind fun t181 => (footwaylaw07_HashHalves.j0 k t169 a2 ji6 t172 t176 (!t181))) else (footwaylaw07_HashHalves.j0 k t169 a2 ji6 t172 t176 true)) else (footwaylaw07_HashHalves.j0 k t169 a2 ji6 t172 t176 true)) else (footwaylaw07_HashHalves.j0 k t169 a2 ji6 t172 t176 true)) else ((footwaylaw07_alive.f k).bind fun t180 => (if t180 = true then (if t173 = 1 then (some (t177 == t173)) else (some false)) else (some false)))) = some r := H
  have A9 := Aside0.mk A90
  clear A90
  by_cases c10 : t173 = 0
  ·rw [if_pos c10] at H
   have c10b0 : (t173 == 0) = true := beq_iff_eq.mpr c10
   have c10b1 : (t173 != 0) = false := bne_eq_false_iff_eq.mpr c10
   clear c10
   have HC11 := Aside0.mk H
   clear H
   go_enter Th.func12, Try.ntmps12
   go_upto_region 7 with (first | ((with_reducible refine gate_callee (f := 42) rfl ?_); refine goesL_ (some 23) rfl rfl Th.func42 (by kernel_rfl) rfl #[.slice A0 l0.length c0] rfl (by (try simp only [List.map_toArray, List.map_cons, List.map_nil]); first | done | rfl | (simp only [List.length_drop, List.length_take]; rfl)) ?_; (with_reducible refine (footwaylaw07_few.calls (fun k_ => k_ < w.heap.size) _ _ l0 t169 _ ?side1 A7.out).mono ?_); (case side1 => exact Kd.V_mk HC0.out (Kd.F_below (Kd.C_F (Kd.heap_int .i64) HR0.out) (by repeat (first | (with_reducible first | exact HB.out | apply below_alloc | apply pw_below_drewN | apply below_drew1) | exact HB.out)))); rintro e w12 ⟨v170, rfl, ho0, hb⟩; refine ⟨_, rfl, ?_⟩; have n0_ := Aside0.mk (Kd.V_lower (Kd.V_mono (ok' := fun k_ => True) ho0 (fun k_ hk_ => trivial)) (below_size (by repeat (first | (with_reducible first | exact HB.out | apply below_alloc | apply pw_below_drewN | apply below_drew1) | exact HB.out)))); have n1_ := Aside0.mk (below_step (by repeat (first | (with_reducible first | exact HB.out | apply below_alloc | apply pw_below_drewN | apply below_drew1) | exact HB.out)) hb); clear HB; have HO171 := n0_; have HB := n1_; clear n0_ n1_; (try clear hb); (try clear hb2); (try clear hk); (try clear hi); (try clear ho0); obtain ⟨Ao13, co13, eo13⟩ := Kd.V_slice HO171.out; subst eo13) | ((with_reducible refine gate_callee (f := 45) rfl ?_); refine goesL_ (some 27) rfl rfl Th.func45 (by kernel_rfl) rfl #[.slice Ao13 t169.length co13, .int .i64 ji6] rfl (by (try simp only [List.map_toArray, List.map_cons, List.map_nil]); first | done | (simp only [hji6]; rfl) | rfl | (simp only [List.length_drop, List.length_take]; rfl)) ?_; (with_reducible refine (hash_Spread.calls _ _ t169 ji6 t172 t173 _ ?side1 ?side2 A8.out).mono ?_); (case side1 => repeat (first | exact (Kd.V_reads' HO171.out).2.2 | (with_reducible refine Kd.C_alloc ?_ _) | (with_reducible refine Kd.C_drewN ?_ _) | (with_reducible refine Kd.C_drew ?_))); (case side2 => exact (Kd.V_reads' HO171.out).2.1); rintro e w14 ⟨v174, rfl, ho0, hb⟩; refine ⟨_, rfl, ?_⟩; have n0_ := Aside0.mk (Kd.V_elder' (by (with_reducible repeat (first | apply Kd.V_alloc | apply Kd.V_drewN | apply Kd.V_drew)); exact HO171.out) (Kd.R_base ho0) hb); have n1_ := Aside0.mk (Kd.R_lower ho0 (below_size (by repeat (first | (with_reducible first | exact HB.out | apply below_alloc | apply pw_below_drewN | apply below_drew1) | exact HB.out)))); have n2_ := Aside0.mk (below_step (by repeat (first | (with_reducible first | exact HB.out | apply below_alloc | apply pw_below_drewN | apply below_drew1) | exact HB.out)) hb); clear HO171; clear HB; have HO171 := n0_; have HO175 := n1_; have HB := n2_; clear n0_ n1_ n2_; (try clear hb); (try clear hb2); (try clear hk); (try clear hi); (try clear ho0)) | ((with_reducible refine gate_callee (f := 45) rfl ?_); refine goesL_ (some 34) rfl rfl Th.func45 (by kernel_rfl) rfl #[.slice Ao13 t169.length co13, .int .i64 (wrap64 (Int.tdiv (ji6) 2))] rfl (by (try simp only [List.map_toArray, List.map_cons, List.map_nil]); first | done | (simp only [hji6]; rfl) | rfl | (simp only [List.length_drop, List.length_take]; rfl)) ?_; (with_reducible refine (hash_Spread.calls _ _ t169 (wrap64 (Int.tdiv (ji6) 2)) t176 t177 _ ?side1 ?side2 A9.out).mono ?_); (case side1 => repeat (first | exact (Kd.V_reads' HO171.out).2.2 | (with_reducible refine Kd.C_alloc ?_ _) | (with_reducible refine Kd.C_drewN ?_ _) | (with_reducible refine Kd.C_drew ?_))); (case side2 => exact (Kd.V_reads' HO171.out).2.1); rintro e w15 ⟨v178, rfl, ho0, hb⟩; refine ⟨_, rfl, ?_⟩; have n0_ := Aside0.mk (Kd.V_elder' (by (with_reducible repeat (first | apply Kd.V_alloc | apply Kd.V_drewN | apply Kd.V_drew)); exact HO171.out) (Kd.R_base ho0) hb); have n1_ := Aside0.mk (Kd.R_elder' (by (with_reducible repeat (first | apply Kd.R_alloc | apply Kd.R_drewN | apply Kd.R_drew)); exact HO175.out) (Kd.R_base ho0) hb); have n2_ := Aside0.mk (Kd.R_lower (Kd.R_new' ho0 (Kd.R_lt (by (with_reducible repeat (first | apply Kd.R_alloc | apply Kd.R_drewN | apply Kd.R_drew)); exact HO175.out))) (below_size (by repeat (first | (with_reducible first | exact HB.out | apply below_alloc | apply pw_below_drewN | apply below_drew1) | exact HB.out)))); have n3_ := Aside0.mk (below_step (by repeat (first | (with_reducible first | exact HB.out | apply below_alloc | apply pw_below_drewN | apply below_drew1) | exact HB.out)) hb); clear HO171; clear HO175; clear HB; have HO171 := n0_; have HO175 := n1_; have HO179 := n2_; have HB := n3_; clear n0_ n1_ n2_ n3_; (try clear hb); (try clear hb2); (try clear hk); (try clear hi); (try clear ho0)))
   (try simp only [Act.put, List.setIfInBounds_toArray, List.set_cons_zero, List.set_cons_succ])
   go_cut [67] (fun v67 wc => ∃ (kq : Nat) (x67_10 : Bool), v67 = .bool x67_10 ∧ Aside0 (footwaylaw07_HashHalves.j0 kq t169 a2 ji6 t172 t176 x67_10 = some r) ∧ Aside0 (kq ≤ k) ∧ Aside0 (Kd.V (Kd.int .i64) 3 wc w.heap.size (fun k_ => some k_ ≠ (v174 : Value).ownBlock ∧ some k_ ≠ (v178 : Value).ownBlock) (.slice Ao13 t169.length co13) t169) ∧ Aside0 (Kd.R (Kd.int .i64) 3 wc w.heap.size (fun k_ => some k_ ≠ (v178 : Value).ownBlock) v174 t172) ∧ Aside0 (Kd.R (Kd.int .i64) 3 wc w.heap.size (fun k_ => some k_ ≠ (v174 : Value).ownBlock) v178 t176) ∧ Aside0 (Below w.heap.size w wc))
   case first =>
    have H := HC11.out
    clear HC11
    by_cases c16 : t177 = 0
    ·rw [if_pos c16] at H
     have c16b0 : (t177 == 0) = true := beq_iff_eq.mpr c16
     have c16b1 : (t177 != 0) = false := bne_eq_false_iff_eq.mpr c16
     clear c16
     (first | rw [c16b0] | (simp only [i64_w, i32_w]; rw [c16b0]) | skip)
     by_cases c17 : (t172.length : Int) = (ji6)
     ·rw [if_pos c17] at H
      have c17b0 : ((t172.length : Int) == (ji6)) = true := beq_iff_eq.mpr c17
      have c17b1 : ((t172.length : Int) != (ji6)) = false := bne_eq_false_iff_eq.mpr c17
      clear c17
      by_cases c18 : (t176.length : Int) = (wrap64 (Int.tdiv (ji6) 2))
      ·rw [if_pos c18] at H
       have c18b0 : ((t176.length : Int) == (wrap64 (Int.tdiv (ji6) 2))) = true := beq_iff_eq.mpr c18
       have c18b1 : ((t176.length : Int) != (wrap64 (Int.tdiv (ji6) 2))) = false := bne_eq_false_iff_eq.mpr c18
       clear c18
       replace H := Option.bind_eq_some_iff.mp H
       obtain ⟨t181, A190, H⟩ := H
       replace H : (footwaylaw07_HashHalves.j0 k t169 a2 ji6 t172 t176 (!t181)) = some r := H
       have A19 := Aside0.mk A190
       clear A190
       have H' := Aside0.mk H
       clear H
       obtain ⟨Ao20, co20, eo20⟩ := Kd.R_slice HO175.out
       subst eo20
       obtain ⟨Ao21, co21, eo21⟩ := Kd.R_slice HO179.out
       subst eo21
       go_wp2_with (first | (go_at_call 49; (with_reducible refine (footwaylaw07_alive.calls k  t181 _ A19.out).mono ?_); rintro e w22 ⟨rfl, hb⟩; have n0_ := Aside0.mk (Kd.V_below (by (with_reducible repeat (first | apply Kd.V_alloc | apply Kd.V_drewN | apply Kd.V_drew)); exact HO171.out) hb); have n1_ := Aside0.mk (Kd.R_below (by (with_reducible repeat (first | apply Kd.R_alloc | apply Kd.R_drewN | apply Kd.R_drew)); exact HO175.out) hb); have n2_ := Aside0.mk (Kd.R_below (by (with_reducible repeat (first | apply Kd.R_alloc | apply Kd.R_drewN | apply Kd.R_drew)); exact HO179.out) hb); have n3_ := Aside0.mk (below_step (by repeat (first | (with_reducible first | exact HB.out | apply below_alloc | apply pw_below_drewN | apply below_drew1) | exact HB.out)) hb); clear HO171; clear HO175; clear HO179; clear HB; have HO171 := n0_; have HO175 := n1_; have HO179 := n2_; have HB := n3_; clear n0_ n1_ n2_ n3_; (try clear hb); (try clear hb2); (try clear hk); (try clear hi)))
       go_meet
       case rel => exact ⟨_, (!t181), (by first | rfl | (simp; done) | (simp [*]; done)), H', ⟨by first | omega | exact Nat.le_refl _⟩, ⟨by (with_reducible repeat (first | apply Kd.V_alloc | apply Kd.V_drewN | apply Kd.V_drew)); exact Kd.V_mono HO171.out (fun _ hk => ⟨hk.1.2, hk.2⟩)⟩, ⟨by (with_reducible repeat (first | apply Kd.R_alloc | apply Kd.R_drewN | apply Kd.R_drew)); exact Kd.R_mono HO175.out (fun _ hk => hk.2)⟩, ⟨by (with_reducible repeat (first | apply Kd.R_alloc | apply Kd.R_drewN | apply Kd.R_drew)); exact Kd.R_mono HO179.out (fun _ hk => hk.2)⟩, ⟨by repeat (first | (with_reducible first | exact HB.out | apply below_alloc | apply pw_below_drewN | apply below_drew1) | exact HB.out)⟩⟩
      ·rw [if_neg c18] at H
       have c18b0 : ((t176.length : Int) == (wrap64 (Int.tdiv (ji6) 2))) = false := beq_eq_false_iff_ne.mpr c18
       have c18b1 : ((t176.length : Int) != (wrap64 (Int.tdiv (ji6) 2))) = true := bne_iff_ne.mpr c18
       have H' := Aside0.mk H
       clear H
       obtain ⟨Ao23, co23, eo23⟩ := Kd.R_slice HO175.out
       subst eo23
       obtain ⟨Ao24, co24, eo24⟩ := Kd.R_slice HO179.out
       subst eo24
       go_wp2
       go_meet
       case rel => exact ⟨_, (true), (by first | rfl | (simp; done) | (simp [*]; done)), H', ⟨by first | omega | exact Nat.le_refl _⟩, ⟨by (with_reducible repeat (first | apply Kd.V_alloc | apply Kd.V_drewN | apply Kd.V_drew)); exact Kd.V_mono HO171.out (fun _ hk => ⟨hk.1.2, hk.2⟩)⟩, ⟨by (with_reducible repeat (first | apply Kd.R_alloc | apply Kd.R_drewN | apply Kd.R_drew)); exact Kd.R_mono HO175.out (fun _ hk => hk.2)⟩, ⟨by (with_reducible repeat (first | apply Kd.R_alloc | apply Kd.R_drewN | apply Kd.R_drew)); exact Kd.R_mono HO179.out (fun _ hk => hk.2)⟩, ⟨by repeat (first | (with_reducible first | exact HB.out | apply below_alloc | apply pw_below_drewN | apply below_drew1) | exact HB.out)⟩⟩
     ·rw [if_neg c17] at H
      have c17b0 : ((t172.length : Int) == (ji6)) = false := beq_eq_false_iff_ne.mpr c17
      have c17b1 : ((t172.length : Int) != (ji6)) = true := bne_iff_ne.mpr c17
      have H' := Aside0.mk H
      clear H
      obtain ⟨Ao25, co25, eo25⟩ := Kd.R_slice HO175.out
      subst eo25
      go_wp2
      go_meet
      case rel => exact ⟨_, (true), (by first | rfl | (simp; done) | (simp [*]; done)), H', ⟨by first | omega | exact Nat.le_refl _⟩, ⟨by (with_reducible repeat (first | apply Kd.V_alloc | apply Kd.V_drewN | apply Kd.V_drew)); exact Kd.V_mono HO171.out (fun _ hk => ⟨hk.1.2, hk.2⟩)⟩, ⟨by (with_reducible repeat (first | apply Kd.R_alloc | apply Kd.R_drewN | apply Kd.R_drew)); exact Kd.R_mono HO175.out (fun _ hk => hk.2)⟩, ⟨by (with_reducible repeat (first | apply Kd.R_alloc | apply Kd.R_drewN | apply Kd.R_drew)); exact Kd.R_mono HO179.out (fun _ hk => hk.2)⟩, ⟨by repeat (first | (with_reducible first | exact HB.out | apply below_alloc | apply pw_below_drewN | apply below_drew1) | exact HB.out)⟩⟩
    ·rw [if_neg c16] at H
     have c16b0 : (t177 == 0) = false := beq_eq_false_iff_ne.mpr c16
     have c16b1 : (t177 != 0) = true := bne_iff_ne.mpr c16
     (first | rw [c16b0] | (simp only [i64_w, i32_w]; rw [c16b0]) | skip)
     have H' := Aside0.mk H
     clear H
     go_wp2
     go_meet
     case rel => exact ⟨_, (true), (by first | rfl | (simp; done) | (simp [*]; done)), H', ⟨by first | omega | exact Nat.le_refl _⟩, ⟨by (with_reducible repeat (first | apply Kd.V_alloc | apply Kd.V_drewN | apply Kd.V_drew)); exact Kd.V_mono HO171.out (fun _ hk => ⟨hk.1.2, hk.2⟩)⟩, ⟨by (with_reducible repeat (first | apply Kd.R_alloc | apply Kd.R_drewN | apply Kd.R_drew)); exact Kd.R_mono HO175.out (fun _ hk => hk.2)⟩, ⟨by (with_reducible repeat (first | apply Kd.R_alloc | apply Kd.R_drewN | apply Kd.R_drew)); exact Kd.R_mono HO179.out (fun _ hk => hk.2)⟩, ⟨by repeat (first | (with_reducible first | exact HB.out | apply below_alloc | apply pw_below_drewN | apply below_drew1) | exact HB.out)⟩⟩
   case rest =>
    clear HC11
    try clear c1
    try clear p2
    try clear c4
    try clear c5
    try clear c5b0
    try clear c5b1
    try clear p6
    try clear c10
    try clear c10b0
    try clear c10b1
    try clear c12
    try clear c16
    try clear c16b0
    try clear c16b1
    try clear c17
    try clear c17b0
    try clear c17b1
    try clear c18
    try clear c18b0
    try clear c18b1
    obtain ⟨kq, x67_10, rfl, HA, HJ10, HO_0, HO_8, HO_10, HB⟩ := hcut
    cases kq with
    | zero => exact absurd HA.out (by simp [footwaylaw07_HashHalves.j0])
    | succ kj10 =>
     have H := HA.out
     clear HA
     simp only [footwaylaw07_HashHalves.j0] at H
     by_cases c26 : x67_10 = true
     ·subst c26
      have H1 : (some false) = some r := by rw [if_pos rfl] at H; exact H
      clear H
      have H := H1
      clear H1
      obtain rfl := Option.some.inj H
      go_wp2
      go_ret
      exact ⟨by first | rfl | (simp [errW_none, errW_some] <;> rfl) | (simp only [← hji4, ← hji6]; first | rfl | (simp [errW_none, errW_some] <;> rfl)) | (simp [*, errW_none, errW_some] <;> rfl), by repeat (first | (with_reducible first | exact HB.out | apply below_alloc | apply pw_below_drewN | apply below_drew1) | exact HB.out)⟩
     ·replace c26 := Bool.eq_false_iff.mpr c26
      subst c26
      have H1 : (footwaylaw07_HashHalves.l0 kj10 t169 a2 ji6 t172 0 t176 (t176.length : Int) 0) = some r := by rw [if_neg (show ¬ (false = true) by decide)] at H; exact H
      clear H
      have H := H1
      clear H1
      have H' := Aside0.mk H
      clear H
      obtain ⟨Ao27, co27, eo27⟩ := Kd.R_slice HO_10.out
      subst eo27
      go_wp2
      go_loopg [12, 70] kj10 (fun kq v12 v70 w' => ∃ (x12_2 : Int) (x70_2 : Int), v12 = .int .i64 x12_2 ∧ v70 = .int .i64 x70_2 ∧ Aside0 (footwaylaw07_HashHalves.l0 kq t169 a2 ji6 t172 x12_2 t176 (t176.length : Int) x70_2 = some r) ∧ Aside0 (kq ≤ kj10) ∧ Aside0 (Kd.V (Kd.int .i64) 3 w' w.heap.size (fun k_ => some k_ ≠ (v174 : Value).ownBlock ∧ some k_ ≠ ((.slice Ao27 t176.length co27) : Value).ownBlock) (.slice Ao13 t169.length co13) t169) ∧ Aside0 (Kd.R (Kd.int .i64) 3 w' w.heap.size (fun k_ => some k_ ≠ ((.slice Ao27 t176.length co27) : Value).ownBlock) v174 t172) ∧ Aside0 (Kd.R (Kd.int .i64) 3 w' w.heap.size (fun k_ => some k_ ≠ (v174 : Value).ownBlock) (.slice Ao27 t176.length co27) t176) ∧ Aside0 (Below w.heap.size w w'))
      case atStart => exact ⟨(0), (0), (by first | rfl | (simp; done) | (simp [*]; done)), (by first | rfl | (simp; done) | (simp [*]; done)), H', ⟨Nat.le_refl _⟩, ⟨by (with_reducible repeat (first | apply Kd.V_alloc | apply Kd.V_drewN | apply Kd.V_drew)); exact HO_0.out⟩, ⟨by (with_reducible repeat (first | apply Kd.R_alloc | apply Kd.R_drewN | apply Kd.R_drew)); exact HO_8.out⟩, ⟨by (with_reducible repeat (first | apply Kd.R_alloc | apply Kd.R_drewN | apply Kd.R_drew)); exact HO_10.out⟩, ⟨by repeat (first | (with_reducible first | exact HB.out | apply below_alloc | apply pw_below_drewN | apply below_drew1) | exact HB.out)⟩⟩
      case round =>
       clear H'
       try clear c1
       try clear c2
       try clear p2
       try clear c4
       try clear c5
       try clear c5b0
       try clear c5b1
       try clear p6
       try clear c10
       try clear c10b0
       try clear c10b1
       try clear c12
       try clear c16
       try clear c16b0
       try clear c16b1
       try clear c17
       try clear c17b0
       try clear c17b1
       try clear c18
       try clear c18b0
       try clear c18b1
       try clear c26
       try clear p2
       try clear p6
       obtain ⟨x12_2, x70_2, rfl, rfl, HA, HK2, HO_0, HO_8, HO_68, HB⟩ := hrel
       cases gk with
       | zero => exact absurd HA.out (by simp [footwaylaw07_HashHalves.l0])
       | succ k2 =>
        have H := HA.out
        clear HA
        simp only [footwaylaw07_HashHalves.l0] at H
        by_cases c28 : x70_2 < (t176.length : Int)
        ·rw [if_pos c28] at H
         have c28b0 : decide (x70_2 < (t176.length : Int)) = true := decide_eq_true c28
         clear c28
         by_cases c29 : 0 ≤ x70_2
         ·rw [if_pos c29] at H
          have c29b0 : decide (0 ≤ x70_2) = true := decide_eq_true c29
          clear c29
          by_cases c30 : x70_2 < (t176.length : Int)
          ·rw [if_pos c30] at H
           have c30b0 : decide (x70_2 < (t176.length : Int)) = true := decide_eq_true c30
           clear c30
           by_cases c31 : x70_2 < (t172.length : Int)
           ·rw [if_pos c31] at H
            have c31b0 : decide (x70_2 < (t172.length : Int)) = true := decide_eq_true c31
            clear c31
            obtain ⟨ji32, hji32⟩ : ∃ j_ : Int, (wrap64 (x70_2 + (wrap64 (Int.tdiv ji6 2)))) = j_ := ⟨_, rfl⟩
            replace H : (if 0 ≤ (ji32) then (if (ji32) < (t172.length : Int) then (if (rd t176 x70_2) = (wrap64 ((rd t172 x70_2) + (rd t172 (ji32)))) then (footwaylaw07_HashHalves.l0 k2 t169 a2 ji6 t172 (wrap64 (x12_2 + (rd t176 x70_2))) t176 (t176.length : Int) (wrap64 (x70_2 + 1))) else (some false)) else (none)) else (none)) = some r := by first | (rw [hji32] at H; exact H) | (simp only [hji32] at H ⊢; exact H)
            have hji32w : (IntKind.i64.wrap (x70_2 + (wrap64 (Int.tdiv ji6 2)))) = ji32 := (i64_w _).trans hji32
            by_cases c33 : 0 ≤ (ji32)
            ·rw [if_pos c33] at H
             have c33b0 : decide (0 ≤ (ji32)) = true := decide_eq_true c33
             clear c33
             by_cases c34 : (ji32) < (t172.length : Int)
             ·rw [if_pos c34] at H
              have c34b0 : decide ((ji32) < (t172.length : Int)) = true := decide_eq_true c34
              clear c34
              by_cases c35 : (rd t176 x70_2) = (wrap64 ((rd t172 x70_2) + (rd t172 (ji32))))
              ·rw [if_pos c35] at H
               have c35b0 : ((rd t176 x70_2) == (wrap64 ((rd t172 x70_2) + (rd t172 (ji32))))) = true := beq_iff_eq.mpr c35
               have c35b1 : ((rd t176 x70_2) != (wrap64 ((rd t172 x70_2) + (rd t172 (ji32))))) = false := bne_eq_false_iff_eq.mpr c35
               clear c35
               have H' := Aside0.mk H
               clear H
               have p182 : 0 ≤ (x70_2 : Int) := of_decide_eq_true (by first | (with_reducible assumption) | assumption)
               have q182 : x70_2 < (t176.length : Int) := of_decide_eq_true (by first | (with_reducible assumption) | assumption)
               obtain ⟨ad182, e182, hx182_0⟩ := Kd.at_int (Kd.R_reads' HO_68.out).2.2 x70_2 p182 q182
               cases e182
               replace p182 := eq_true p182
               replace q182 := eq_true q182
               try go_wp2
               have n0_ := Aside0.mk (Kd.V_drew HO_0.out)
               have n1_ := Aside0.mk (Kd.R_drew HO_8.out)
               have n2_ := Aside0.mk (Kd.R_drew HO_68.out)
               have n3_ := Aside0.mk (below_drew1 HB.out)
               clear HO_0
               clear HO_8
               clear HO_68
               clear HB
               have HO_0 := n0_
               have HO_8 := n1_
               have HO_68 := n2_
               have HB := n3_
               clear n0_ n1_ n2_ n3_
               obtain ⟨Ao37, co37, eo37⟩ := Kd.R_slice HO_8.out
               (first | subst eo37 | (injection eo37 with f1_ f2_ f3_; have f4_ := f1_.symm; have f5_ := f3_.symm; clear f1_ f2_ f3_; subst f4_; subst f5_))
               have p183 : 0 ≤ (x70_2 : Int) := of_decide_eq_true (by first | (with_reducible assumption) | assumption)
               have q183 : x70_2 < (t172.length : Int) := of_decide_eq_true (by first | (with_reducible assumption) | assumption)
               obtain ⟨ad183, e183, hx183_0⟩ := Kd.at_int (Kd.R_reads' HO_8.out).2.2 x70_2 p183 q183
               cases e183
               replace p183 := eq_true p183
               replace q183 := eq_true q183
               have p184 : 0 ≤ ((ji32) : Int) := of_decide_eq_true (by first | (with_reducible assumption) | assumption)
               have q184 : (ji32) < (t172.length : Int) := of_decide_eq_true (by first | (with_reducible assumption) | assumption)
               obtain ⟨ad184, e184, hx184_0⟩ := Kd.at_int (Kd.R_reads' HO_8.out).2.2 (ji32) p184 q184
               obtain rfl : ad183 = ad184 := (by injection e184)
               replace p184 := eq_true p184
               replace q184 := eq_true q184
               refine start_ (n := 14) (S := fun w' => w'.cell? (ad183.add (x70_2).toNat) = some (.int .i64 (rd t172 x70_2)) ∧ w'.cell? (ad183.add ((ji32)).toNat) = some (.int .i64 (rd t172 (ji32)))) (ds := []) #[false, false, false, false, false, false, false, false, false, false, false, false, false, false] (by kernel_rfl) rfl rfl ⟨hx183_0, hx184_0⟩ (fun hHeld => ?_); refine with_tabW footwaylaw07_HashHalves.tab13 footwaylaw07_HashHalves.bits13 (fun HT_ HW_ => ?_)
               generalize wr.drew = w36 at HO_0 HO_8 HO_68 HB hx183_0 hx184_0 hHeld ⊢
               refine pure_ (i := 0) (N := some 75) (v := ?_) (a' := ?_) #[true, false, false, false, false, false, false, false, false, false, false, false, false, false] rfl rfl (any_of HT_.out (by kernel_rfl)) (fun _ _ _ h => h) (Or.inl ⟨by rfl, ?_⟩) ?_ ?_
               rotate_left
               ·intro w'
                go_simp
                with_reducible rfl
               rotate_left
               ·simp only [Act.put, List.setIfInBounds_toArray, List.set_cons_zero, List.set_cons_succ, i64_w, i32_w]
                rfl
               refine pure_ (i := 1) (N := some 76) (v := ?_) (a' := ?_) #[true, true, false, false, false, false, false, false, false, false, false, false, false, false] rfl rfl (any_of HT_.out (by kernel_rfl)) (fun _ _ _ h => h) (Or.inl ⟨by rfl, ?_⟩) ?_ ?_
               rotate_left
               ·intro w'
                go_simp
                with_reducible rfl
               rotate_left
               ·simp only [Act.put, List.setIfInBounds_toArray, List.set_cons_zero, List.set_cons_succ, i64_w, i32_w]
                rfl
               refine pure_ (i := 2) (N := some 77) (v := ?_) (a' := ?_) #[true, true, true, false, false, false, false, false, false, false, false, false, false, false] rfl rfl (any_of HT_.out (by kernel_rfl)) (fun _ _ _ h => h) (Or.inl ⟨by rfl, ?_⟩) ?_ ?_
               rotate_left
               ·intro w'
                go_simp
                with_reducible rfl
               rotate_left
               ·simp only [Act.put, List.setIfInBounds_toArray, List.set_cons_zero, List.set_cons_succ, i64_w, i32_w]
                rfl
               refine pure_ (i := 3) (N := some 78) (v := ?_) (a' := ?_) #[true, true, true, true, false, false, false, false, false, false, false, false, false, false] rfl rfl (any_of HT_.out (by kernel_rfl)) (fun _ _ _ h => h) (Or.inl ⟨by rfl, ?_⟩) ?_ ?_
               rotate_left
               ·intro w'
                go_simp
                with_reducible rfl
               rotate_left
               ·simp only [Act.put, List.setIfInBounds_toArray, List.set_cons_zero, List.set_cons_succ, i64_w, i32_w]
                rfl
               refine pure_ (i := 5) (N := some 80) (v := ?_) (a' := ?_) #[true, true, true, true, false, true, false, false, false, false, false, false, false, false] rfl rfl (any_of HT_.out (by kernel_rfl)) (fun _ _ _ h => h) (Or.inl ⟨by rfl, ?_⟩) ?_ ?_
               rotate_left
               ·intro w'
                go_simp
                with_reducible rfl
               rotate_left
               ·simp only [Act.put, List.setIfInBounds_toArray, List.set_cons_zero, List.set_cons_succ, i64_w, i32_w]
                rfl
               refine pure_ (i := 6) (N := some 81) (v := ?_) (a' := ?_) #[true, true, true, true, false, true, true, false, false, false, false, false, false, false] rfl rfl (any_of HT_.out (by kernel_rfl)) (fun _ _ _ h => h) (Or.inl ⟨by rfl, ?_⟩) ?_ ?_
               rotate_left
               ·intro w'
                go_simp
                with_reducible rfl
               rotate_left
               ·simp only [Act.put, List.setIfInBounds_toArray, List.set_cons_zero, List.set_cons_succ, i64_w, i32_w]
                rfl
               refine pure_ (i := 7) (N := some 82) (v := ?_) (a' := ?_) #[true, true, true, true, false, true, true, true, false, false, false, false, false, false] rfl rfl (any_of HT_.out (by kernel_rfl)) (fun _ _ _ h => h) (Or.inl ⟨by rfl, ?_⟩) ?_ ?_
               rotate_left
               ·intro w'
                go_simp
                with_reducible rfl
               rotate_left
               ·simp only [Act.put, List.setIfInBounds_toArray, List.set_cons_zero, List.set_cons_succ, i64_w, i32_w]
                rfl
               refine pure_ (i := 8) (N := some 83) (v := ?_) (a' := ?_) #[true, true, true, true, false, true, true, true, true, false, false, false, false, false] rfl rfl (any_of HT_.out (by kernel_rfl)) (fun _ _ _ h => h) (Or.inl ⟨by rfl, ?_⟩) ?_ ?_
               rotate_left
               ·intro w'
                go_simp
                with_reducible rfl
               rotate_left
               ·simp only [Act.put, List.setIfInBounds_toArray, List.set_cons_zero, List.set_cons_succ, i64_w, i32_w]
                rfl
               refine pure_ (i := 9) (N := some 84) (v := ?_) (a' := ?_) #[true, true, true, true, false, true, true, true, true, true, false, false, false, false] rfl rfl (any_of HT_.out (by kernel_rfl)) (fun _ _ _ h => h) (Or.inl ⟨by rfl, ?_⟩) ?_ ?_
               rotate_left
               ·intro w'
                go_simp
                with_reducible rfl
               rotate_left
               ·simp only [Act.put, List.setIfInBounds_toArray, List.set_cons_zero, List.set_cons_succ, i64_w, i32_w]
                rfl
               refine pure_ (i := 10) (N := some 85) (v := ?_) (a' := ?_) #[true, true, true, true, false, true, true, true, true, true, true, false, false, false] rfl rfl (any_of HT_.out (by kernel_rfl)) (fun _ _ _ h => h) (Or.inl ⟨by rfl, ?_⟩) ?_ ?_
               rotate_left
               ·intro w'
                go_simp
                with_reducible rfl
               rotate_left
               ·simp only [Act.put, List.setIfInBounds_toArray, List.set_cons_zero, List.set_cons_succ, i64_w, i32_w]
                rfl
               refine take_ (i := 4) (N := some 79) (v := ?_) (a' := ?_) #[true, true, true, true, true, true, true, true, true, true, true, false, false, false] rfl rfl (take_ofW HT_.out HW_.out (by kernel_rfl)) (fun _ _ _ h => h) (Or.inl ⟨by rfl, ?_⟩) hHeld ?_ ?_
               rotate_left
               ·rintro w' ⟨s0, s1⟩
                go_simp
                with_reducible rfl
               rotate_left
               ·simp only [Act.put, List.setIfInBounds_toArray, List.set_cons_zero, List.set_cons_succ, i64_w, i32_w]
                rfl
               refine take_ (i := 11) (N := some 86) (v := ?_) (a' := ?_) #[true, true, true, true, true, true, true, true, true, true, true, true, false, false] rfl rfl (take_ofW HT_.out HW_.out (by kernel_rfl)) (fun _ _ _ h => h) (Or.inl ⟨by rfl, ?_⟩) hHeld ?_ ?_
               rotate_left
               ·rintro w' ⟨s0, s1⟩
                go_simp
                with_reducible rfl
               rotate_left
               ·simp only [Act.put, List.setIfInBounds_toArray, List.set_cons_zero, List.set_cons_succ, i64_w, i32_w]
                rfl
               refine pure_ (i := 12) (N := some 87) (v := ?_) (a' := ?_) #[true, true, true, true, true, true, true, true, true, true, true, true, true, false] rfl rfl (any_of HT_.out (by kernel_rfl)) (fun _ _ _ h => h) (Or.inl ⟨by rfl, ?_⟩) ?_ ?_
               rotate_left
               ·intro w'
                go_simp
                with_reducible rfl
               rotate_left
               ·simp only [Act.put, List.setIfInBounds_toArray, List.set_cons_zero, List.set_cons_succ, i64_w, i32_w]
                rfl
               refine pure_ (i := 13) (N := some 88) (v := ?_) (a' := ?_) #[true, true, true, true, true, true, true, true, true, true, true, true, true, true] rfl rfl (any_of HT_.out (by kernel_rfl)) (fun _ _ _ h => h) (Or.inl ⟨by rfl, ?_⟩) ?_ ?_
               rotate_left
               ·intro w'
                go_simp
                with_reducible rfl
               rotate_left
               ·simp only [Act.put, List.setIfInBounds_toArray, List.set_cons_zero, List.set_cons_succ, i64_w, i32_w]
                rfl
               refine done_ (done_of HT_.out (by kernel_rfl)) ?_
               try go_wp2
               go_roundg k2
               case measure => have := HJ10.out; have := HK2.out; omega
               case rel => exact ⟨(wrap64 (x12_2 + (rd t176 x70_2))), (wrap64 (x70_2 + 1)), (by first | rfl | (simp; done) | (simp [*]; done)), (by first | rfl | (simp; done) | (simp [*]; done)), H', ⟨by have := HJ10.out; have := HK2.out; omega⟩, ⟨by (with_reducible repeat (first | apply Kd.V_alloc | apply Kd.V_drewN | apply Kd.V_drew)); exact HO_0.out⟩, ⟨by (with_reducible repeat (first | apply Kd.R_alloc | apply Kd.R_drewN | apply Kd.R_drew)); exact HO_8.out⟩, ⟨by (with_reducible repeat (first | apply Kd.R_alloc | apply Kd.R_drewN | apply Kd.R_drew)); exact HO_68.out⟩, ⟨by repeat (first | (with_reducible first | exact HB.out | apply below_alloc | apply pw_below_drewN | apply below_drew1) | exact HB.out)⟩⟩
              ·rw [if_neg c35] at H
               have c35b0 : ((rd t176 x70_2) == (wrap64 ((rd t172 x70_2) + (rd t172 (ji32))))) = false := beq_eq_false_iff_ne.mpr c35
               have c35b1 : ((rd t176 x70_2) != (wrap64 ((rd t172 x70_2) + (rd t172 (ji32))))) = true := bne_iff_ne.mpr c35
               obtain rfl := Option.some.inj H
               have p182 : 0 ≤ (x70_2 : Int) := of_decide_eq_true (by first | (with_reducible assumption) | assumption)
               have q182 : x70_2 < (t176.length : Int) := of_decide_eq_true (by first | (with_reducible assumption) | assumption)
               obtain ⟨ad182, e182, hx182_0⟩ := Kd.at_int (Kd.R_reads' HO_68.out).2.2 x70_2 p182 q182
               cases e182
               replace p182 := eq_true p182
               replace q182 := eq_true q182
               try go_wp2
               have n0_ := Aside0.mk (Kd.V_drew HO_0.out)
               have n1_ := Aside0.mk (Kd.R_drew HO_8.out)
               have n2_ := Aside0.mk (Kd.R_drew HO_68.out)
               have n3_ := Aside0.mk (below_drew1 HB.out)
               clear HO_0
               clear HO_8
               clear HO_68
               clear HB
               have HO_0 := n0_
               have HO_8 := n1_
               have HO_68 := n2_
               have HB := n3_
               clear n0_ n1_ n2_ n3_
               obtain ⟨Ao39, co39, eo39⟩ := Kd.R_slice HO_8.out
               (first | subst eo39 | (injection eo39 with f1_ f2_ f3_; have f4_ := f1_.symm; have f5_ := f3_.symm; clear f1_ f2_ f3_; subst f4_; subst f5_))
               have p183 : 0 ≤ (x70_2 : Int) := of_decide_eq_true (by first | (with_reducible assumption) | assumption)
               have q183 : x70_2 < (t172.length : Int) := of_decide_eq_true (by first | (with_reducible assumption) | assumption)
               obtain ⟨ad183, e183, hx183_0⟩ := Kd.at_int (Kd.R_reads' HO_8.out).2.2 x70_2 p183 q183
               cases e183
               replace p183 := eq_true p183
               replace q183 := eq_true q183
               have p184 : 0 ≤ ((ji32) : Int) := of_decide_eq_true (by first | (with_reducible assumption) | assumption)
               have q184 : (ji32) < (t172.length : Int) := of_decide_eq_true (by first | (with_reducible assumption) | assumption)
               obtain ⟨ad184, e184, hx184_0⟩ := Kd.at_int (Kd.R_reads' HO_8.out).2.2 (ji32) p184 q184
               obtain rfl : ad183 = ad184 := (by injection e184)
               replace p184 := eq_true p184
               replace q184 := eq_true q184
               refine start_ (n := 14) (S := fun w' => w'.cell? (ad183.add (x70_2).toNat) = some (.int .i64 (rd t172 x70_2)) ∧ w'.cell? (ad183.add ((ji32)).toNat) = some (.int .i64 (rd t172 (ji32)))) (ds := []) #[false, false, false, false, false, false, false, false, false, false, false, false, false, false] (by kernel_rfl) rfl rfl ⟨hx183_0, hx184_0⟩ (fun hHeld => ?_); refine with_tabW footwaylaw07_HashHalves.tab13 footwaylaw07_HashHalves.bits13 (fun HT_ HW_ => ?_)
               generalize wr.drew = w38 at HO_0 HO_8 HO_68 HB hx183_0 hx184_0 hHeld ⊢
               refine pure_ (i := 0) (N := some 75) (v := ?_) (a' := ?_) #[true, false, false, false, false, false, false, false, false, false, false, false, false, false] rfl rfl (any_of HT_.out (by kernel_rfl)) (fun _ _ _ h => h) (Or.inl ⟨by rfl, ?_⟩) ?_ ?_
               rotate_left
               ·intro w'
                go_simp
                with_reducible rfl
               rotate_left
               ·simp only [Act.put, List.setIfInBounds_toArray, List.set_cons_zero, List.set_cons_succ, i64_w, i32_w]
                rfl
               refine pure_ (i := 1) (N := some 76) (v := ?_) (a' := ?_) #[true, true, false, false, false, false, false, false, false, false, false, false, false, false] rfl rfl (any_of HT_.out (by kernel_rfl)) (fun _ _ _ h => h) (Or.inl ⟨by rfl, ?_⟩) ?_ ?_
               rotate_left
               ·intro w'
                go_simp
                with_reducible rfl
               rotate_left
               ·simp only [Act.put, List.setIfInBounds_toArray, List.set_cons_zero, List.set_cons_succ, i64_w, i32_w]
                rfl
               refine pure_ (i := 2) (N := some 77) (v := ?_) (a' := ?_) #[true, true, true, false, false, false, false, false, false, false, false, false, false, false] rfl rfl (any_of HT_.out (by kernel_rfl)) (fun _ _ _ h => h) (Or.inl ⟨by rfl, ?_⟩) ?_ ?_
               rotate_left
               ·intro w'
                go_simp
                with_reducible rfl
               rotate_left
               ·simp only [Act.put, List.setIfInBounds_toArray, List.set_cons_zero, List.set_cons_succ, i64_w, i32_w]
                rfl
               refine pure_ (i := 3) (N := some 78) (v := ?_) (a' := ?_) #[true, true, true, true, false, false, false, false, false, false, false, false, false, false] rfl rfl (any_of HT_.out (by kernel_rfl)) (fun _ _ _ h => h) (Or.inl ⟨by rfl, ?_⟩) ?_ ?_
               rotate_left
               ·intro w'
                go_simp
                with_reducible rfl
               rotate_left
               ·simp only [Act.put, List.setIfInBounds_toArray, List.set_cons_zero, List.set_cons_succ, i64_w, i32_w]
                rfl
               refine pure_ (i := 5) (N := some 80) (v := ?_) (a' := ?_) #[true, true, true, true, false, true, false, false, false, false, false, false, false, false] rfl rfl (any_of HT_.out (by kernel_rfl)) (fun _ _ _ h => h) (Or.inl ⟨by rfl, ?_⟩) ?_ ?_
               rotate_left
               ·intro w'
                go_simp
                with_reducible rfl
               rotate_left
               ·simp only [Act.put, List.setIfInBounds_toArray, List.set_cons_zero, List.set_cons_succ, i64_w, i32_w]
                rfl
               refine pure_ (i := 6) (N := some 81) (v := ?_) (a' := ?_) #[true, true, true, true, false, true, true, false, false, false, false, false, false, false] rfl rfl (any_of HT_.out (by kernel_rfl)) (fun _ _ _ h => h) (Or.inl ⟨by rfl, ?_⟩) ?_ ?_
               rotate_left
               ·intro w'
                go_simp
                with_reducible rfl
               rotate_left
               ·simp only [Act.put, List.setIfInBounds_toArray, List.set_cons_zero, List.set_cons_succ, i64_w, i32_w]
                rfl
               refine pure_ (i := 7) (N := some 82) (v := ?_) (a' := ?_) #[true, true, true, true, false, true, true, true, false, false, false, false, false, false] rfl rfl (any_of HT_.out (by kernel_rfl)) (fun _ _ _ h => h) (Or.inl ⟨by rfl, ?_⟩) ?_ ?_
               rotate_left
               ·intro w'
                go_simp
                with_reducible rfl
               rotate_left
               ·simp only [Act.put, List.setIfInBounds_toArray, List.set_cons_zero, List.set_cons_succ, i64_w, i32_w]
                rfl
               refine pure_ (i := 8) (N := some 83) (v := ?_) (a' := ?_) #[true, true, true, true, false, true, true, true, true, false, false, false, false, false] rfl rfl (any_of HT_.out (by kernel_rfl)) (fun _ _ _ h => h) (Or.inl ⟨by rfl, ?_⟩) ?_ ?_
               rotate_left
               ·intro w'
                go_simp
                with_reducible rfl
               rotate_left
               ·simp only [Act.put, List.setIfInBounds_toArray, List.set_cons_zero, List.set_cons_succ, i64_w, i32_w]
                rfl
               refine pure_ (i := 9) (N := some 84) (v := ?_) (a' := ?_) #[true, true, true, true, false, true, true, true, true, true, false, false, false, false] rfl rfl (any_of HT_.out (by kernel_rfl)) (fun _ _ _ h => h) (Or.inl ⟨by rfl, ?_⟩) ?_ ?_
               rotate_left
               ·intro w'
                go_simp
                with_reducible rfl
               rotate_left
               ·simp only [Act.put, List.setIfInBounds_toArray, List.set_cons_zero, List.set_cons_succ, i64_w, i32_w]
                rfl
               refine pure_ (i := 10) (N := some 85) (v := ?_) (a' := ?_) #[true, true, true, true, false, true, true, true, true, true, true, false, false, false] rfl rfl (any_of HT_.out (by kernel_rfl)) (fun _ _ _ h => h) (Or.inl ⟨by rfl, ?_⟩) ?_ ?_
               rotate_left
               ·intro w'
                go_simp
                with_reducible rfl
               rotate_left
               ·simp only [Act.put, List.setIfInBounds_toArray, List.set_cons_zero, List.set_cons_succ, i64_w, i32_w]
                rfl
               refine take_ (i := 4) (N := some 79) (v := ?_) (a' := ?_) #[true, true, true, true, true, true, true, true, true, true, true, false, false, false] rfl rfl (take_ofW HT_.out HW_.out (by kernel_rfl)) (fun _ _ _ h => h) (Or.inl ⟨by rfl, ?_⟩) hHeld ?_ ?_
               rotate_left
               ·rintro w' ⟨s0, s1⟩
                go_simp
                with_reducible rfl
               rotate_left
               ·simp only [Act.put, List.setIfInBounds_toArray, List.set_cons_zero, List.set_cons_succ, i64_w, i32_w]
                rfl
               refine take_ (i := 11) (N := some 86) (v := ?_) (a' := ?_) #[true, true, true, true, true, true, true, true, true, true, true, true, false, false] rfl rfl (take_ofW HT_.out HW_.out (by kernel_rfl)) (fun _ _ _ h => h) (Or.inl ⟨by rfl, ?_⟩) hHeld ?_ ?_
               rotate_left
               ·rintro w' ⟨s0, s1⟩
                go_simp
                with_reducible rfl
               rotate_left
               ·simp only [Act.put, List.setIfInBounds_toArray, List.set_cons_zero, List.set_cons_succ, i64_w, i32_w]
                rfl
               refine pure_ (i := 12) (N := some 87) (v := ?_) (a' := ?_) #[true, true, true, true, true, true, true, true, true, true, true, true, true, false] rfl rfl (any_of HT_.out (by kernel_rfl)) (fun _ _ _ h => h) (Or.inl ⟨by rfl, ?_⟩) ?_ ?_
               rotate_left
               ·intro w'
                go_simp
                with_reducible rfl
               rotate_left
               ·simp only [Act.put, List.setIfInBounds_toArray, List.set_cons_zero, List.set_cons_succ, i64_w, i32_w]
                rfl
               refine pure_ (i := 13) (N := some 88) (v := ?_) (a' := ?_) #[true, true, true, true, true, true, true, true, true, true, true, true, true, true] rfl rfl (any_of HT_.out (by kernel_rfl)) (fun _ _ _ h => h) (Or.inl ⟨by rfl, ?_⟩) ?_ ?_
               rotate_left
               ·intro w'
                go_simp
                with_reducible rfl
               rotate_left
               ·simp only [Act.put, List.setIfInBounds_toArray, List.set_cons_zero, List.set_cons_succ, i64_w, i32_w]
                rfl
               refine done_ (done_of HT_.out (by kernel_rfl)) ?_
               try go_wp2
               go_ret
               exact ⟨by first | rfl | (simp [errW_none, errW_some] <;> rfl) | (simp only [← hji4, ← hji6, ← hji32]; first | rfl | (simp [errW_none, errW_some] <;> rfl)) | (simp [*, errW_none, errW_some] <;> rfl), by repeat (first | (with_reducible first | exact HB.out | apply below_alloc | apply pw_below_drewN | apply below_drew1) | exact HB.out)⟩
             ·rw [if_neg c34] at H
              exact absurd H (by simp)
            ·rw [if_neg c33] at H
             exact absurd H (by simp)
           ·rw [if_neg c31] at H
            exact absurd H (by simp)
          ·rw [if_neg c30] at H
           exact absurd H (by simp)
         ·rw [if_neg c29] at H
          exact absurd H (by simp)
        ·rw [if_neg c28] at H
         have c28b0 : decide (x70_2 < (t176.length : Int)) = false := decide_eq_false c28
         clear c28
         by_cases c40 : x12_2 = (t169.length : Int)
         ·rw [if_pos c40] at H
          have c40b0 : (x12_2 == (t169.length : Int)) = true := beq_iff_eq.mpr c40
          have c40b1 : (x12_2 != (t169.length : Int)) = false := bne_eq_false_iff_eq.mpr c40
          clear c40
          by_cases c41 : (t169.length : Int) > 0
          ·rw [if_pos c41] at H
           have c41b0 : decide (0 < (t169.length : Int)) = true := decide_eq_true c41
           have c41b1 : decide (0 < t169.length) = true := decide_eq_true (by omega)
           clear c41
           by_cases c42 : (t169.length : Int) = 0
           ·rw [if_pos c42] at H
            exact absurd H (by simp)
           ·rw [if_neg c42] at H
            have c42b0 : ((t169.length : Int) == 0) = false := beq_eq_false_iff_ne.mpr c42
            have c42b1 : ((t169.length : Int) != 0) = true := bne_iff_ne.mpr c42
            have c42b2 : ¬ (t169 = []) := fun h_ => c42 (by rw [h_]; rfl)
            obtain ⟨y185, hy185⟩ : ∃ y_ : List Int, y_ = (([] : List Int)) := ⟨_, rfl⟩
            replace H : (if 0 ≤ (Int.tmod (wrap64 ((Int.tmod a2 (t169.length : Int)) + (t169.length : Int))) (t169.length : Int)) then (if (Int.tmod (wrap64 ((Int.tmod a2 (t169.length : Int)) + (t169.length : Int))) (t169.length : Int)) ≤ (t169.length : Int) then ((some (t169.drop ((Int.tmod (wrap64 ((Int.tmod a2 (t169.length : Int)) + (t169.length : Int))) (t169.length : Int)) : Int).toNat : List Int)).bind fun y188 => (if y185.length + y188.length < 17592186044416 then ((some (y185 ++ y188 : List Int)).bind fun y193 => ((some (t169.take ((Int.tmod (wrap64 ((Int.tmod a2 (t169.length : Int)) + (t169.length : Int))) (t169.length : Int)) : Int).toNat : List Int)).bind fun y196 => (if y193.length + y196.length < 17592186044416 then ((hash_Spread.f (y193 ++ y196) ji6).bind fun bt204 => (if bt204.2 = 0 then ((footwayref06_Same.f k2 t172 bt204.1).bind fun t208 => (some t208)) else (some false))) else (none)))) else (none))) else (none)) else (none)) = some r := by first | (rw [hy185]; with_reducible exact H) | (have H2_ := (Option.bind_some _ _).symm.trans H; rw [hy185]; with_reducible exact H2_) | (have H2_ := (Option.bind_some _ _).symm.trans H; with_reducible exact H2_) | with_reducible exact H | (rw [hy185]; exact H) | exact H
            have Ny185 := Aside0.mk hy185
            clear hy185
            obtain ⟨ji43, hji43⟩ : ∃ j_ : Int, (Int.tmod (wrap64 ((Int.tmod a2 (t169.length : Int)) + (t169.length : Int))) (t169.length : Int)) = j_ := ⟨_, rfl⟩
            replace H : (if 0 ≤ (ji43) then (if (ji43) ≤ (t169.length : Int) then ((some (t169.drop ((ji43) : Int).toNat : List Int)).bind fun y188 => (if y185.length + y188.length < 17592186044416 then ((some (y185 ++ y188 : List Int)).bind fun y193 => ((some (t169.take ((ji43) : Int).toNat : List Int)).bind fun y196 => (if y193.length + y196.length < 17592186044416 then ((hash_Spread.f (y193 ++ y196) ji6).bind fun bt204 => (if bt204.2 = 0 then ((footwayref06_Same.f k2 t172 bt204.1).bind fun t208 => (some t208)) else (some false))) else (none)))) else (none))) else (none)) else (none)) = some r := by first | (rw [hji43] at H; exact H) | (simp only [hji43] at H ⊢; exact H)
            by_cases c44 : 0 ≤ (ji43)
            ·rw [if_pos c44] at H
             have c44b0 := eq_true c44
             have c44b1 : decide (0 ≤ (ji43)) = true := decide_eq_true c44
             clear c44
             by_cases c45 : (ji43) ≤ (t169.length : Int)
             ·rw [if_pos c45] at H
              have c45b0 := eq_true c45
              have c45b1 : decide ((ji43) ≤ (t169.length : Int)) = true := decide_eq_true c45
              clear c45
              obtain ⟨y188, hy188⟩ : ∃ y_ : List Int, y_ = (t169.drop ((ji43) : Int).toNat) := ⟨_, rfl⟩
              replace H : (if y185.length + y188.length < 17592186044416 then ((some (y185 ++ y188 : List Int)).bind fun y193 => ((some (t169.take ((ji43) : Int).toNat : List Int)).bind fun y196 => (if y193.length + y196.length < 17592186044416 then ((hash_Spread.f (y193 ++ y196) ji6).bind fun bt204 => (if bt204.2 = 0 then ((footwayref06_Same.f k2 t172 bt204.1).bind fun t208 => (some t208)) else (some false))) else (none)))) else (none)) = some r := by first | (rw [hy188]; with_reducible exact H) | (have H2_ := (Option.bind_some _ _).symm.trans H; rw [hy188]; with_reducible exact H2_) | (have H2_ := (Option.bind_some _ _).symm.trans H; with_reducible exact H2_) | with_reducible exact H | (rw [hy188]; exact H) | exact H
              have Ny188 := Aside0.mk hy188
              clear hy188
              by_cases c46 : y185.length + y188.length < 17592186044416
              ·rw [if_pos c46] at H
               have LMc46 := Aside0.mk c46
               clear c46
               obtain ⟨y193, hy193⟩ : ∃ y_ : List Int, y_ = (y185 ++ y188) := ⟨_, rfl⟩
               replace H : ((some (t169.take ((ji43) : Int).toNat : List Int)).bind fun y196 => (if y193.length + y196.length < 17592186044416 then ((hash_Spread.f (y193 ++ y196) ji6).bind fun bt204 => (if bt204.2 = 0 then ((footwayref06_Same.f k2 t172 bt204.1).bind fun t208 => (some t208)) else (some false))) else (none))) = some r := by first | (rw [hy193]; with_reducible exact H) | (have H2_ := (Option.bind_some _ _).symm.trans H; rw [hy193]; with_reducible exact H2_) | (have H2_ := (Option.bind_some _ _).symm.trans H; with_reducible exact H2_) | with_reducible exact H | (rw [hy193]; exact H) | exact H
               have Ny193 := Aside0.mk hy193
               clear hy193
               have c47b0 := eq_true (of_decide_eq_true (by first | (with_reducible assumption) | assumption) : 0 ≤ (ji43))
               have c48b0 := eq_true (of_decide_eq_true (by first | (with_reducible assumption) | assumption) : (ji43) ≤ (t169.length : Int))
               obtain ⟨y196, hy196⟩ : ∃ y_ : List Int, y_ = (t169.take ((ji43) : Int).toNat) := ⟨_, rfl⟩
               replace H : (if y193.length + y196.length < 17592186044416 then ((hash_Spread.f (y193 ++ y196) ji6).bind fun bt204 => (if bt204.2 = 0 then ((footwayref06_Same.f k2 t172 bt204.1).bind fun t208 => (some t208)) else (some false))) else (none)) = some r := by first | (rw [hy196]; with_reducible exact H) | (have H2_ := (Option.bind_some _ _).symm.trans H; rw [hy196]; with_reducible exact H2_) | (have H2_ := (Option.bind_some _ _).symm.trans H; with_reducible exact H2_) | with_reducible exact H | (rw [hy196]; exact H) | exact H
               have Ny196 := Aside0.mk hy196
               clear hy196
               by_cases c49 : y193.length + y196.length < 17592186044416
               ·rw [if_pos c49] at H
                have LMc49 := Aside0.mk c49
                clear c49
                obtain ⟨y201, hy201⟩ : ∃ y_ : List Int, y_ = (y193 ++ y196) := ⟨_, rfl⟩
                replace H : ((hash_Spread.f y201 ji6).bind fun bt204 => (if bt204.2 = 0 then ((footwayref06_Same.f k2 t172 bt204.1).bind fun t208 => (some t208)) else (some false))) = some r := by first | (rw [hy201]; with_reducible exact H) | (have H2_ := (Option.bind_some _ _).symm.trans H; rw [hy201]; with_reducible exact H2_) | (have H2_ := (Option.bind_some _ _).symm.trans H; with_reducible exact H2_) | with_reducible exact H | (rw [hy201]; exact H) | exact H
                have Ny201 := Aside0.mk hy201
                clear hy201
                replace H := Option.bind_eq_some_iff.mp H
                obtain ⟨⟨t204, t205⟩, A500, H⟩ := H
                replace H : (if t205 = 0 then ((footwayref06_Same.f k2 t172 t204).bind fun t208 => (some t208)) else (some false)) = some r := H
                have A50 := Aside0.mk A500
                clear A500
                by_cases c51 : t205 = 0
                ·rw [if_pos c51] at H
                 have c51b0 : (t205 == 0) = true := beq_iff_eq.mpr c51
                 have c51b1 : (t205 != 0) = false := bne_eq_false_iff_eq.mpr c51
                 clear c51
                 replace H := Option.bind_eq_some_iff.mp H
                 obtain ⟨t208, A520, H⟩ := H
                 replace H : (some t208) = some r := H
                 have A52 := Aside0.mk A520
                 clear A520
                 obtain rfl := Option.some.inj H
                 try go_wp2
                 have n0_ := Aside0.mk (Kd.V_drew HO_0.out)
                 have n1_ := Aside0.mk (Kd.R_drew HO_8.out)
                 have n2_ := Aside0.mk (Kd.R_drew HO_68.out)
                 have n3_ := Aside0.mk (below_drew1 HB.out)
                 clear HO_0
                 clear HO_8
                 clear HO_68
                 clear HB
                 have HO_0 := n0_
                 have HO_8 := n1_
                 have HO_68 := n2_
                 have HB := n3_
                 clear n0_ n1_ n2_ n3_
                 have q54 : ((ji43) : Int) ≤ ((t169.length : Int) : Int) := of_decide_eq_true (by first | (with_reducible assumption) | assumption)
                 obtain ⟨i054, hi054, _, hsz54, _⟩ := info_parts info3
                 have hroom54 : t169.length ≤ co13 := (Kd.V_reads' HO_0.out).2.1
                 have hC54 : Kd.F (Kd.int .i64) _ _ Ao13 t169.length t169 := (Kd.V_at (base := w.heap.size) HO_0.out).2.2
                 have q054 : (0 : Int) ≤ ((ji43) : Int) := of_decide_eq_true (by first | (with_reducible assumption) | assumption)
                 have hcut54 := cut_from (P := Th.prog) 57 3 .i64 Th.underlying57 hi054 1 hsz54 Ao13 t169.length co13 (ji43) q054 q54
                 have hr54 := Kd.F_cut (m := ((ji43) : Int).toNat) (c := co13) hC54 (by omega) hroom54
                 obtain ⟨A54, hA54⟩ : ∃ A1, A1 = (if co13 = ((ji43) : Int).toNat then Ao13 else (Ao13 : Option Addr).map (·.add (((ji43) : Int).toNat * 1))) := ⟨_, rfl⟩
                 obtain ⟨c54, hc54⟩ : ∃ c1, c1 = co13 - ((ji43) : Int).toNat := ⟨_, rfl⟩
                 have hy54 : y188.length = t169.length - ((ji43) : Int).toNat := (by rw [Ny188.out, List.length_drop] <;> omega)
                 rw [show (t169).drop ((ji43) : Int).toNat = y188 from Ny188.out.symm] at hr54
                 replace hr54 : Kd.F (Kd.int .i64) _ _ A54 y188.length y188 := (by rw [hA54]; exact hr54)
                 rw [← hy54, ← hA54, ← hc54] at hcut54
                 have HO192 := Aside0.mk (show Kd.V (Kd.int .i64) 3 _ w.heap.size _ (.slice A54 y188.length c54) y188 from Kd.V_mk (by rw [hy54, hc54]; exact Nat.sub_le_sub_right hroom54 _) hr54)
                 have HC192 := Aside0.mk (show y188.length ≤ c54 from by rw [hy54, hc54]; exact Nat.sub_le_sub_right hroom54 _)
                 clear hr54 hC54 hroom54 hi054 hsz54 hc54
                 have KY54 := Aside0.mk hy54
                 have KA54 := Aside0.mk hA54
                 clear hy54 hA54
                 replace q54 := eq_true q54
                 have q55 : ((ji43) : Int) ≤ ((t169.length : Int) : Int) := of_decide_eq_true (by first | (with_reducible assumption) | assumption)
                 obtain ⟨i055, hi055, _, hsz55, _⟩ := info_parts info3
                 have hroom55 : t169.length ≤ co13 := (Kd.V_reads' HO_0.out).2.1
                 have hC55 : Kd.F (Kd.int .i64) _ _ Ao13 t169.length t169 := (Kd.V_at (base := w.heap.size) HO_0.out).2.2
                 have hcut55 := cut_to (P := Th.prog) 57 3 .i64 Th.underlying57 hi055 Ao13 t169.length co13 (ji43) (of_decide_eq_true (by first | (with_reducible assumption) | assumption)) q55 hroom55
                 have hr55 := Kd.F_take (m := ((ji43) : Int).toNat) hC55 (by omega)
                 have hy55 : y196.length = ((ji43) : Int).toNat := (by rw [Ny196.out, List.length_take]; omega)
                 rw [← Ny196.out] at hr55
                 rw [← hy55] at hcut55
                 have HO200 := Aside0.mk (show Kd.V (Kd.int .i64) 3 _ w.heap.size _ (.slice Ao13 y196.length co13) y196 from Kd.V_mk (by omega) hr55)
                 have HC200 := Aside0.mk (show y196.length ≤ co13 from by omega)
                 clear hr55 hC55 hroom55 hi055 hsz55
                 have KY55 := Aside0.mk hy55
                 clear hy55
                 replace q55 := eq_true q55
                 refine start_ (n := 16) (S := fun w' => True) (ds := []) #[false, false, false, false, false, false, false, false, false, false, false, false, false, false, false, false] (by kernel_rfl) rfl rfl trivial (fun hHeld => ?_); refine with_tabW footwaylaw07_HashHalves.tab22 footwaylaw07_HashHalves.bits22 (fun HT_ HW_ => ?_)
                 generalize wr.drew = w53 at HO_0 HO_8 HO_68 HB HO192 HO200 hHeld ⊢
                 refine pure_ (i := 1) (N := some 112) (v := ?_) (a' := ?_) #[false, true, false, false, false, false, false, false, false, false, false, false, false, false, false, false] rfl rfl (any_of HT_.out (by kernel_rfl)) (fun _ _ _ h => h) (Or.inl ⟨by rfl, ?_⟩) ?_ ?_
                 rotate_left
                 ·intro w'
                  go_simp
                  with_reducible rfl
                 rotate_left
                 ·simp only [Act.put, List.setIfInBounds_toArray, List.set_cons_zero, List.set_cons_succ, i64_w, i32_w]
                  rfl
                 refine pure_ (i := 2) (N := some 113) (v := ?_) (a' := ?_) #[false, true, true, false, false, false, false, false, false, false, false, false, false, false, false, false] rfl rfl (any_of HT_.out (by kernel_rfl)) (fun _ _ _ h => h) (Or.inl ⟨by rfl, ?_⟩) ?_ ?_
                 rotate_left
                 ·intro w'
                  go_simp
                  with_reducible rfl
                 rotate_left
                 ·simp only [Act.put, List.setIfInBounds_toArray, List.set_cons_zero, List.set_cons_succ, i64_w, i32_w]
                  rfl
                 refine pure_ (i := 3) (N := some 114) (v := ?_) (a' := ?_) #[false, true, true, true, false, false, false, false, false, false, false, false, false, false, false, false] rfl rfl (any_of HT_.out (by kernel_rfl)) (fun _ _ _ h => h) (Or.inl ⟨by rfl, ?_⟩) ?_ ?_
                 rotate_left
                 ·intro w'
                  go_simp
                  with_reducible rfl
                 rotate_left
                 ·simp only [Act.put, List.setIfInBounds_toArray, List.set_cons_zero, List.set_cons_succ, i64_w, i32_w]
                  rfl
                 refine pure_ (i := 5) (N := some 116) (v := ?_) (a' := ?_) #[false, true, true, true, false, true, false, false, false, false, false, false, false, false, false, false] rfl rfl (any_of HT_.out (by kernel_rfl)) (fun _ _ _ h => h) (Or.inl ⟨by rfl, ?_⟩) ?_ ?_
                 rotate_left
                 ·intro w'
                  go_simp
                  with_reducible rfl
                 rotate_left
                 ·simp only [Act.put, List.setIfInBounds_toArray, List.set_cons_zero, List.set_cons_succ, i64_w, i32_w]
                  rfl
                 refine pure_ (i := 6) (N := some 117) (v := ?_) (a' := ?_) #[false, true, true, true, false, true, true, false, false, false, false, false, false, false, false, false] rfl rfl (any_of HT_.out (by kernel_rfl)) (fun _ _ _ h => h) (Or.inl ⟨by rfl, ?_⟩) ?_ ?_
                 rotate_left
                 ·intro w'
                  go_simp
                  with_reducible rfl
                 rotate_left
                 ·simp only [Act.put, List.setIfInBounds_toArray, List.set_cons_zero, List.set_cons_succ, i64_w, i32_w]
                  rfl
                 refine pure_ (i := 7) (N := some 118) (v := ?_) (a' := ?_) #[false, true, true, true, false, true, true, true, false, false, false, false, false, false, false, false] rfl rfl (any_of HT_.out (by kernel_rfl)) (fun _ _ _ h => h) (Or.inl ⟨by rfl, ?_⟩) ?_ ?_
                 rotate_left
                 ·intro w'
                  go_simp
                  with_reducible rfl
                 rotate_left
                 ·simp only [Act.put, List.setIfInBounds_toArray, List.set_cons_zero, List.set_cons_succ, i64_w, i32_w]
                  rfl
                 refine pure_ (i := 9) (N := some 120) (v := ?_) (a' := ?_) #[false, true, true, true, false, true, true, true, false, true, false, false, false, false, false, false] rfl rfl (any_of HT_.out (by kernel_rfl)) (fun _ _ _ h => h) (Or.inl ⟨by rfl, ?_⟩) ?_ ?_
                 rotate_left
                 ·intro w'
                  go_simp
                  with_reducible rfl
                 rotate_left
                 ·simp only [Act.put, List.setIfInBounds_toArray, List.set_cons_zero, List.set_cons_succ, i64_w, i32_w]
                  rfl
                 refine one_ (i := 0) (N := some 111) #[true, true, true, true, false, true, true, true, false, true, false, false, false, false, false, false] rfl rfl (one_of HT_.out (by kernel_rfl)) (by decide) (fun K hK => ?_)
                 refine Kd.R_lit_step (Kd.int .i64) _ 3 ?hg (N := 111) ?hd (xs := ([] : List Int)) (inner := []) (ok := fun _ => True) (okp := fun _ => True) ?hr ?hp (fun _ hk => hk) trivial (Below.refl _ _) (Nat.le_refl _) (by simp) ?_; (case hd => rfl); (case hg => rfl); (case hr => first | (go_simp; done) | (go_simp; rfl)); (case hp => exact (Reps.none _ _))
                 intro v186 w56 ho57 hb hg_ hnew_
                 clear hg_ hnew_
                 (first | rw [← Ny185.out] at ho57 | (simp only [Int.reduceToNat] at ho57; rw [← Ny185.out] at ho57))
                 have n0_ := Aside0.mk (Kd.V_elder' (by (with_reducible repeat (first | apply Kd.V_alloc | apply Kd.V_drewN | apply Kd.V_drew)); exact HO_0.out) (Kd.R_base ho57) hb)
                 have n1_ := Aside0.mk (Kd.R_elder' (by (with_reducible repeat (first | apply Kd.R_alloc | apply Kd.R_drewN | apply Kd.R_drew)); exact HO_8.out) (Kd.R_base ho57) hb)
                 have n2_ := Aside0.mk (Kd.R_elder' (by (with_reducible repeat (first | apply Kd.R_alloc | apply Kd.R_drewN | apply Kd.R_drew)); exact HO_68.out) (Kd.R_base ho57) hb)
                 have n3_ := Aside0.mk (Kd.V_elder' (by (with_reducible repeat (first | apply Kd.V_alloc | apply Kd.V_drewN | apply Kd.V_drew)); exact HO192.out) (Kd.R_base ho57) hb)
                 have n4_ := Aside0.mk (Kd.V_elder' (by (with_reducible repeat (first | apply Kd.V_alloc | apply Kd.V_drewN | apply Kd.V_drew)); exact HO200.out) (Kd.R_base ho57) hb)
                 have n5_ := Aside0.mk (Kd.R_lower (Kd.R_new' (Kd.R_new' ho57 (Kd.R_lt (by (with_reducible repeat (first | apply Kd.R_alloc | apply Kd.R_drewN | apply Kd.R_drew)); exact HO_8.out))) (Kd.R_lt (by (with_reducible repeat (first | apply Kd.R_alloc | apply Kd.R_drewN | apply Kd.R_drew)); exact HO_68.out))) (below_size (by repeat (first | (with_reducible first | exact HB.out | apply below_alloc | apply pw_below_drewN | apply below_drew1) | exact HB.out))))
                 have n6_ := Aside0.mk (below_step (by repeat (first | (with_reducible first | exact HB.out | apply below_alloc | apply pw_below_drewN | apply below_drew1) | exact HB.out)) hb)
                 clear HO_0
                 clear HO_8
                 clear HO_68
                 clear HO192
                 clear HO200
                 clear HB
                 have HO_0 := n0_
                 have HO_8 := n1_
                 have HO_68 := n2_
                 have HO192 := n3_
                 have HO200 := n4_
                 have HO187 := n5_
                 have HB := n6_
                 clear n0_ n1_ n2_ n3_ n4_ n5_ n6_
                 clear hb ho57
                 refine hK.out _ _ trivial (fun hHeld => ?_)
                 clear hK K
                 refine norm_ (a' := ?_) ?_ ?_
                 rotate_left
                 ·show Act.put _ (some 111) _ = _
                  simp only [Act.put, List.setIfInBounds_toArray, List.set_cons_zero, List.set_cons_succ, i64_w, i32_w]
                  rfl
                 refine one_ (i := 4) (N := some 115) #[true, true, true, true, true, true, true, true, false, true, false, false, false, false, false, false] rfl rfl (one_of HT_.out (by kernel_rfl)) (by decide) (fun K hK => ?_)
                 refine Kd.R_append_rows_step (Kd.int .i64) (w0 := w) w.heap.size (by rfl) (.tmp 111) (.tmp 114) 57 3 (.int .i64 0) 8 rfl Th.underlying57 info3 rfl (by decide) (by omega) v186 y185 y188 _ _ _ (fun k_ => some k_ ≠ (v174 : Value).ownBlock ∧ some k_ ≠ (.slice Ao27 t176.length co27 : Value).ownBlock) (fun _ => False) rfl rfl ?aO ?aR (fun _ _ h => h) (fun _ h => h.elim) ?aF ?aB ?aS ?aL ?_
                 (case aR => repeat (first | exact (Kd.V_reads' HO192.out).2.2 | (with_reducible refine Kd.C_alloc ?_ _) | (with_reducible refine Kd.C_drewN ?_ _) | (with_reducible refine Kd.C_drew ?_)))
                 (case aB => exact (by repeat (first | (with_reducible first | exact HB.out | apply below_alloc | apply pw_below_drewN | apply below_drew1) | exact HB.out)))
                 (case aF => exact (fun k_ hk => ⟨Kd.fresh' (Kd.R_lt (by (with_reducible repeat (first | apply Kd.R_alloc | apply Kd.R_drewN | apply Kd.R_drew)); exact HO_8.out)) k_ hk, Kd.fresh' (Kd.R_lt (by (with_reducible repeat (first | apply Kd.R_alloc | apply Kd.R_drewN | apply Kd.R_drew)); exact HO_68.out)) k_ hk⟩))
                 (case aO => exact (by (with_reducible repeat (first | apply Kd.R_alloc | apply Kd.R_drewN | apply Kd.R_drew)); exact Kd.R_mono HO187.out (fun _ hk => ⟨hk.1.2, hk.2⟩)))
                 (case aS => exact (below_size (by repeat (first | (with_reducible first | exact HB.out | apply below_alloc | apply pw_below_drewN | apply below_drew1) | exact HB.out))))
                 (case aL => have := LMc46.out; omega)
                 intro v194 w58 ho hb hg hat
                 rw [← Ny193.out] at ho
                 have n0_ := Aside0.mk (Kd.V_afterv (ok := (fun k_ => some k_ ≠ (v174 : Value).ownBlock ∧ some k_ ≠ (.slice Ao27 t176.length co27 : Value).ownBlock)) (by (with_reducible repeat (first | apply Kd.V_alloc | apply Kd.V_drewN | apply Kd.V_drew)); exact HO_0.out) hg hat)
                 have n1_ := Aside0.mk (Kd.R_after (ok := (fun k_ => some k_ ≠ (.slice Ao27 t176.length co27 : Value).ownBlock)) (by (with_reducible repeat (first | apply Kd.R_alloc | apply Kd.R_drewN | apply Kd.R_drew)); exact HO_8.out) hg hat)
                 have n2_ := Aside0.mk (Kd.R_after (ok := (fun k_ => some k_ ≠ (v174 : Value).ownBlock)) (by (with_reducible repeat (first | apply Kd.R_alloc | apply Kd.R_drewN | apply Kd.R_drew)); exact HO_68.out) hg hat)
                 have n3_ := Aside0.mk (Kd.V_afterv (ok := (fun k_ => some k_ ≠ (v174 : Value).ownBlock ∧ some k_ ≠ (.slice Ao27 t176.length co27 : Value).ownBlock)) (by (with_reducible repeat (first | apply Kd.V_alloc | apply Kd.V_drewN | apply Kd.V_drew)); exact HO192.out) hg hat)
                 have n4_ := Aside0.mk (Kd.V_afterv (ok := (fun k_ => some k_ ≠ (v174 : Value).ownBlock ∧ some k_ ≠ (.slice Ao27 t176.length co27 : Value).ownBlock)) (by (with_reducible repeat (first | apply Kd.V_alloc | apply Kd.V_drewN | apply Kd.V_drew)); exact HO200.out) hg hat)
                 have n5_ := Aside0.mk (hb)
                 have n6_ := Aside0.mk (ho)
                 clear HO_0
                 clear HO_8
                 clear HO_68
                 clear HO192
                 clear HO200
                 clear HB
                 clear HO187
                 have HO_0 := n0_
                 have HO_8 := n1_
                 have HO_68 := n2_
                 have HO192 := n3_
                 have HO200 := n4_
                 have HB := n5_
                 have HO195 := n6_
                 clear n0_ n1_ n2_ n3_ n4_ n5_ n6_
                 clear ho hb hg hat
                 refine hK.out _ _ trivial (fun hHeld => ?_)
                 clear hK K
                 refine norm_ (a' := ?_) ?_ ?_
                 rotate_left
                 ·show Act.put _ (some 115) _ = _
                  simp only [Act.put, List.setIfInBounds_toArray, List.set_cons_zero, List.set_cons_succ, i64_w, i32_w]
                  rfl
                 refine one_ (i := 8) (N := some 119) #[true, true, true, true, true, true, true, true, true, true, false, false, false, false, false, false] rfl rfl (one_of HT_.out (by kernel_rfl)) (by decide) (fun K hK => ?_)
                 refine Kd.R_append_rows_step (Kd.int .i64) (w0 := w) w.heap.size (by rfl) (.tmp 115) (.tmp 118) 57 3 (.int .i64 0) 8 rfl Th.underlying57 info3 rfl (by decide) (by omega) v194 y193 y196 _ _ _ (fun k_ => some k_ ≠ (v174 : Value).ownBlock ∧ some k_ ≠ (.slice Ao27 t176.length co27 : Value).ownBlock) (fun _ => False) rfl rfl ?aO ?aR (fun _ _ h => h) (fun _ h => h.elim) ?aF ?aB ?aS ?aL ?_
                 (case aR => repeat (first | exact (Kd.V_reads' HO200.out).2.2 | (with_reducible refine Kd.C_alloc ?_ _) | (with_reducible refine Kd.C_drewN ?_ _) | (with_reducible refine Kd.C_drew ?_)))
                 (case aB => exact (by repeat (first | (with_reducible first | exact HB.out | apply below_alloc | apply pw_below_drewN | apply below_drew1) | exact HB.out)))
                 (case aF => exact (fun k_ hk => ⟨Kd.fresh' (Kd.R_lt (by (with_reducible repeat (first | apply Kd.R_alloc | apply Kd.R_drewN | apply Kd.R_drew)); exact HO_8.out)) k_ hk, Kd.fresh' (Kd.R_lt (by (with_reducible repeat (first | apply Kd.R_alloc | apply Kd.R_drewN | apply Kd.R_drew)); exact HO_68.out)) k_ hk⟩))
                 (case aO => exact (by (with_reducible repeat (first | apply Kd.R_alloc | apply Kd.R_drewN | apply Kd.R_drew)); exact HO195.out))
                 (case aS => exact (below_size (by repeat (first | (with_reducible first | exact HB.out | apply below_alloc | apply pw_below_drewN | apply below_drew1) | exact HB.out))))
                 (case aL => have := LMc49.out; omega)
                 intro v202 w59 ho hb hg hat
                 rw [← Ny201.out] at ho
                 have n0_ := Aside0.mk (Kd.V_afterv (ok := (fun k_ => some k_ ≠ (v174 : Value).ownBlock ∧ some k_ ≠ (.slice Ao27 t176.length co27 : Value).ownBlock)) (by (with_reducible repeat (first | apply Kd.V_alloc | apply Kd.V_drewN | apply Kd.V_drew)); exact HO_0.out) hg hat)
                 have n1_ := Aside0.mk (Kd.R_after (ok := (fun k_ => some k_ ≠ (.slice Ao27 t176.length co27 : Value).ownBlock)) (by (with_reducible repeat (first | apply Kd.R_alloc | apply Kd.R_drewN | apply Kd.R_drew)); exact HO_8.out) hg hat)
                 have n2_ := Aside0.mk (Kd.R_after (ok := (fun k_ => some k_ ≠ (v174 : Value).ownBlock)) (by (with_reducible repeat (first | apply Kd.R_alloc | apply Kd.R_drewN | apply Kd.R_drew)); exact HO_68.out) hg hat)
                 have n3_ := Aside0.mk (Kd.V_afterv (ok := (fun k_ => some k_ ≠ (v174 : Value).ownBlock ∧ some k_ ≠ (.slice Ao27 t176.length co27 : Value).ownBlock)) (by (with_reducible repeat (first | apply Kd.V_alloc | apply Kd.V_drewN | apply Kd.V_drew)); exact HO192.out) hg hat)
                 have n4_ := Aside0.mk (Kd.V_afterv (ok := (fun k_ => some k_ ≠ (v174 : Value).ownBlock ∧ some k_ ≠ (.slice Ao27 t176.length co27 : Value).ownBlock)) (by (with_reducible repeat (first | apply Kd.V_alloc | apply Kd.V_drewN | apply Kd.V_drew)); exact HO200.out) hg hat)
                 have n5_ := Aside0.mk (hb)
                 have n6_ := Aside0.mk (ho)
                 clear HO_0
                 clear HO_8
                 clear HO_68
                 clear HO192
                 clear HO200
                 clear HB
                 clear HO195
                 have HO_0 := n0_
                 have HO_8 := n1_
                 have HO_68 := n2_
                 have HO192 := n3_
                 have HO200 := n4_
                 have HB := n5_
                 have HO203 := n6_
                 clear n0_ n1_ n2_ n3_ n4_ n5_ n6_
                 clear ho hb hg hat
                 obtain ⟨Ao60, co60, eo60⟩ := Kd.R_slice HO203.out
                 (first | subst eo60 | (injection eo60 with f1_ f2_ f3_; have f4_ := f1_.symm; have f5_ := f3_.symm; clear f1_ f2_ f3_; subst f4_; subst f5_))
                 refine hK.out _ _ trivial (fun hHeld => ?_)
                 clear hK K
                 refine norm_ (a' := ?_) ?_ ?_
                 rotate_left
                 ·show Act.put _ (some 119) _ = _
                  simp only [Act.put, List.setIfInBounds_toArray, List.set_cons_zero, List.set_cons_succ, i64_w, i32_w]
                  rfl
                 refine one_ (i := 10) (N := some 121) #[true, true, true, true, true, true, true, true, true, true, true, false, false, false, false, false] rfl rfl (one_of HT_.out (by kernel_rfl)) (by decide) (fun K hK => ?_)
                 refine goes_ Th.func45 (by kernel_rfl) rfl #[.slice Ao60 y201.length co60, .int .i64 ji6] (by rfl) rfl rfl (by (try simp only [List.map_toArray, List.map_cons, List.map_nil]); first | done | (simp only [hji6]; rfl) | rfl | (simp only [List.length_drop, List.length_take]; rfl)) ?_
                 with_reducible refine (hash_Spread.calls _ _ y201 ji6 t204 t205 _ ?side1 ?side2 A50.out).mono ?_
                 (case side1 => repeat (first | exact (Kd.R_reads' HO203.out).2.2 | (with_reducible refine Kd.C_alloc ?_ _) | (with_reducible refine Kd.C_drewN ?_ _) | (with_reducible refine Kd.C_drew ?_)))
                 (case side2 => exact (Kd.R_reads' HO203.out).2.1)
                 rintro e w61 ⟨v206, rfl, ho0, hb⟩
                 refine ⟨_, rfl, ?_⟩
                 have n0_ := Aside0.mk (Kd.V_elder' (by (with_reducible repeat (first | apply Kd.V_alloc | apply Kd.V_drewN | apply Kd.V_drew)); exact HO_0.out) (Kd.R_base ho0) hb)
                 have n1_ := Aside0.mk (Kd.R_elder' (by (with_reducible repeat (first | apply Kd.R_alloc | apply Kd.R_drewN | apply Kd.R_drew)); exact HO_8.out) (Kd.R_base ho0) hb)
                 have n2_ := Aside0.mk (Kd.R_elder' (by (with_reducible repeat (first | apply Kd.R_alloc | apply Kd.R_drewN | apply Kd.R_drew)); exact HO_68.out) (Kd.R_base ho0) hb)
                 have n3_ := Aside0.mk (Kd.V_elder' (by (with_reducible repeat (first | apply Kd.V_alloc | apply Kd.V_drewN | apply Kd.V_drew)); exact HO192.out) (Kd.R_base ho0) hb)
                 have n4_ := Aside0.mk (Kd.V_elder' (by (with_reducible repeat (first | apply Kd.V_alloc | apply Kd.V_drewN | apply Kd.V_drew)); exact HO200.out) (Kd.R_base ho0) hb)
                 have n5_ := Aside0.mk (Kd.R_elder' (by (with_reducible repeat (first | apply Kd.R_alloc | apply Kd.R_drewN | apply Kd.R_drew)); exact HO203.out) (Kd.R_base ho0) hb)
                 have n6_ := Aside0.mk (Kd.R_lower (Kd.R_new' (Kd.R_new' (Kd.R_new' ho0 (Kd.R_lt (by (with_reducible repeat (first | apply Kd.R_alloc | apply Kd.R_drewN | apply Kd.R_drew)); exact HO_8.out))) (Kd.R_lt (by (with_reducible repeat (first | apply Kd.R_alloc | apply Kd.R_drewN | apply Kd.R_drew)); exact HO_68.out))) (Kd.R_lt (by (with_reducible repeat (first | apply Kd.R_alloc | apply Kd.R_drewN | apply Kd.R_drew)); exact HO203.out))) (below_size (by repeat (first | (with_reducible first | exact HB.out | apply below_alloc | apply pw_below_drewN | apply below_drew1) | exact HB.out))))
                 have n7_ := Aside0.mk (below_step (by repeat (first | (with_reducible first | exact HB.out | apply below_alloc | apply pw_below_drewN | apply below_drew1) | exact HB.out)) hb)
                 clear HO_0
                 clear HO_8
                 clear HO_68
                 clear HO192
                 clear HO200
                 clear HO203
                 clear HB
                 have HO_0 := n0_
                 have HO_8 := n1_
                 have HO_68 := n2_
                 have HO192 := n3_
                 have HO200 := n4_
                 have HO203 := n5_
                 have HO207 := n6_
                 have HB := n7_
                 clear n0_ n1_ n2_ n3_ n4_ n5_ n6_ n7_
                 (try clear hb)
                 (try clear hb2)
                 (try clear hk)
                 (try clear hi)
                 (try clear ho0)
                 refine hK.out _ _ trivial (fun hHeld => ?_)
                 clear hK K
                 refine norm_ (a' := ?_) ?_ ?_
                 rotate_left
                 ·show Act.put _ (some 121) _ = _
                  simp only [Act.put, List.setIfInBounds_toArray, List.set_cons_zero, List.set_cons_succ, i64_w, i32_w]
                  rfl
                 refine pure_ (i := 11) (N := some 110) (v := ?_) (a' := ?_) #[true, true, true, true, true, true, true, true, true, true, true, true, false, false, false, false] rfl rfl (any_of HT_.out (by kernel_rfl)) (fun _ _ _ h => h) (Or.inl ⟨by rfl, ?_⟩) ?_ ?_
                 rotate_left
                 ·intro w'
                  go_simp
                  with_reducible rfl
                 rotate_left
                 ·simp only [Act.put, List.setIfInBounds_toArray, List.set_cons_zero, List.set_cons_succ, i64_w, i32_w]
                  rfl
                 refine pure_ (i := 12) (N := some 122) (v := ?_) (a' := ?_) #[true, true, true, true, true, true, true, true, true, true, true, true, true, false, false, false] rfl rfl (any_of HT_.out (by kernel_rfl)) (fun _ _ _ h => h) (Or.inl ⟨by rfl, ?_⟩) ?_ ?_
                 rotate_left
                 ·intro w'
                  go_simp
                  with_reducible rfl
                 rotate_left
                 ·simp only [Act.put, List.setIfInBounds_toArray, List.set_cons_zero, List.set_cons_succ, i64_w, i32_w]
                  rfl
                 refine pure_ (i := 13) (N := some 123) (v := ?_) (a' := ?_) #[true, true, true, true, true, true, true, true, true, true, true, true, true, true, false, false] rfl rfl (any_of HT_.out (by kernel_rfl)) (fun _ _ _ h => h) (Or.inl ⟨by rfl, ?_⟩) ?_ ?_
                 rotate_left
                 ·intro w'
                  go_simp
                  with_reducible rfl
                 rotate_left
                 ·simp only [Act.put, List.setIfInBounds_toArray, List.set_cons_zero, List.set_cons_succ, i64_w, i32_w]
                  rfl
                 refine pure_ (i := 14) (N := some 15) (v := ?_) (a' := ?_) #[true, true, true, true, true, true, true, true, true, true, true, true, true, true, true, false] rfl rfl (any_of HT_.out (by kernel_rfl)) (fun _ _ _ h => h) (Or.inl ⟨by rfl, ?_⟩) ?_ ?_
                 rotate_left
                 ·intro w'
                  go_simp
                  with_reducible rfl
                 rotate_left
                 ·simp only [Act.put, List.setIfInBounds_toArray, List.set_cons_zero, List.set_cons_succ, i64_w, i32_w]
                  rfl
                 refine pure_ (i := 15) (N := some 16) (v := ?_) (a' := ?_) #[true, true, true, true, true, true, true, true, true, true, true, true, true, true, true, true] rfl rfl (any_of HT_.out (by kernel_rfl)) (fun _ _ _ h => h) (Or.inl ⟨by rfl, ?_⟩) ?_ ?_
                 rotate_left
                 ·intro w'
                  go_simp
                  with_reducible rfl
                 rotate_left
                 ·simp only [Act.put, List.setIfInBounds_toArray, List.set_cons_zero, List.set_cons_succ, i64_w, i32_w]
                  rfl
                 refine done_ (done_of HT_.out (by kernel_rfl)) ?_
                 obtain ⟨Ao62, co62, eo62⟩ := Kd.R_slice HO_8.out
                 subst eo62
                 obtain ⟨Ao63, co63, eo63⟩ := Kd.R_slice HO207.out
                 subst eo63
                 try go_wp2_with (first | (go_at_call 53; (with_reducible refine (footwayref06_Same.calls k2 _ _ t172 _ _ t204 t208 _ ?side1 ?side2 ?side3 ?side4 A52.out).mono ?_); (case side1 => repeat (first | exact (Kd.R_reads' HO_8.out).2.2 | (with_reducible refine Kd.C_alloc ?_ _) | (with_reducible refine Kd.C_drewN ?_ _) | (with_reducible refine Kd.C_drew ?_))); (case side2 => exact (Kd.R_reads' HO_8.out).2.1); (case side3 => repeat (first | exact (Kd.R_reads' HO207.out).2.2 | (with_reducible refine Kd.C_alloc ?_ _) | (with_reducible refine Kd.C_drewN ?_ _) | (with_reducible refine Kd.C_drew ?_))); (case side4 => exact (Kd.R_reads' HO207.out).2.1); rintro e w' ⟨rfl, ⟨nd, rfl⟩⟩))
                 go_ret
                 exact ⟨by first | rfl | (simp [errW_none, errW_some] <;> rfl) | (simp only [← hji4, ← hji6, ← hji43]; first | rfl | (simp [errW_none, errW_some] <;> rfl)) | (simp [*, errW_none, errW_some] <;> rfl), by repeat (first | (with_reducible first | exact HB.out | apply below_alloc | apply pw_below_drewN | apply below_drew1) | exact HB.out)⟩
                ·rw [if_neg c51] at H
                 have c51b0 : (t205 == 0) = false := beq_eq_false_iff_ne.mpr c51
                 have c51b1 : (t205 != 0) = true := bne_iff_ne.mpr c51
                 obtain rfl := Option.some.inj H
                 try go_wp2
                 have n0_ := Aside0.mk (Kd.V_drew HO_0.out)
                 have n1_ := Aside0.mk (Kd.R_drew HO_8.out)
                 have n2_ := Aside0.mk (Kd.R_drew HO_68.out)
                 have n3_ := Aside0.mk (below_drew1 HB.out)
                 clear HO_0
                 clear HO_8
                 clear HO_68
                 clear HB
                 have HO_0 := n0_
                 have HO_8 := n1_
                 have HO_68 := n2_
                 have HB := n3_
                 clear n0_ n1_ n2_ n3_
                 have q65 : ((ji43) : Int) ≤ ((t169.length : Int) : Int) := of_decide_eq_true (by first | (with_reducible assumption) | assumption)
                 obtain ⟨i065, hi065, _, hsz65, _⟩ := info_parts info3
                 have hroom65 : t169.length ≤ co13 := (Kd.V_reads' HO_0.out).2.1
                 have hC65 : Kd.F (Kd.int .i64) _ _ Ao13 t169.length t169 := (Kd.V_at (base := w.heap.size) HO_0.out).2.2
                 have q065 : (0 : Int) ≤ ((ji43) : Int) := of_decide_eq_true (by first | (with_reducible assumption) | assumption)
                 have hcut65 := cut_from (P := Th.prog) 57 3 .i64 Th.underlying57 hi065 1 hsz65 Ao13 t169.length co13 (ji43) q065 q65
                 have hr65 := Kd.F_cut (m := ((ji43) : Int).toNat) (c := co13) hC65 (by omega) hroom65
                 obtain ⟨A65, hA65⟩ : ∃ A1, A1 = (if co13 = ((ji43) : Int).toNat then Ao13 else (Ao13 : Option Addr).map (·.add (((ji43) : Int).toNat * 1))) := ⟨_, rfl⟩
                 obtain ⟨c65, hc65⟩ : ∃ c1, c1 = co13 - ((ji43) : Int).toNat := ⟨_, rfl⟩
                 have hy65 : y188.length = t169.length - ((ji43) : Int).toNat := (by rw [Ny188.out, List.length_drop] <;> omega)
                 rw [show (t169).drop ((ji43) : Int).toNat = y188 from Ny188.out.symm] at hr65
                 replace hr65 : Kd.F (Kd.int .i64) _ _ A65 y188.length y188 := (by rw [hA65]; exact hr65)
                 rw [← hy65, ← hA65, ← hc65] at hcut65
                 have HO192 := Aside0.mk (show Kd.V (Kd.int .i64) 3 _ w.heap.size _ (.slice A65 y188.length c65) y188 from Kd.V_mk (by rw [hy65, hc65]; exact Nat.sub_le_sub_right hroom65 _) hr65)
                 have HC192 := Aside0.mk (show y188.length ≤ c65 from by rw [hy65, hc65]; exact Nat.sub_le_sub_right hroom65 _)
                 clear hr65 hC65 hroom65 hi065 hsz65 hc65
                 have KY65 := Aside0.mk hy65
                 have KA65 := Aside0.mk hA65
                 clear hy65 hA65
                 replace q65 := eq_true q65
                 have q66 : ((ji43) : Int) ≤ ((t169.length : Int) : Int) := of_decide_eq_true (by first | (with_reducible assumption) | assumption)
                 obtain ⟨i066, hi066, _, hsz66, _⟩ := info_parts info3
                 have hroom66 : t169.length ≤ co13 := (Kd.V_reads' HO_0.out).2.1
                 have hC66 : Kd.F (Kd.int .i64) _ _ Ao13 t169.length t169 := (Kd.V_at (base := w.heap.size) HO_0.out).2.2
                 have hcut66 := cut_to (P := Th.prog) 57 3 .i64 Th.underlying57 hi066 Ao13 t169.length co13 (ji43) (of_decide_eq_true (by first | (with_reducible assumption) | assumption)) q66 hroom66
                 have hr66 := Kd.F_take (m := ((ji43) : Int).toNat) hC66 (by omega)
                 have hy66 : y196.length = ((ji43) : Int).toNat := (by rw [Ny196.out, List.length_take]; omega)
                 rw [← Ny196.out] at hr66
                 rw [← hy66] at hcut66
                 have HO200 := Aside0.mk (show Kd.V (Kd.int .i64) 3 _ w.heap.size _ (.slice Ao13 y196.length co13) y196 from Kd.V_mk (by omega) hr66)
                 have HC200 := Aside0.mk (show y196.length ≤ co13 from by omega)
                 clear hr66 hC66 hroom66 hi066 hsz66
                 have KY66 := Aside0.mk hy66
                 clear hy66
                 replace q66 := eq_true q66
                 refine start_ (n := 16) (S := fun w' => True) (ds := []) #[false, false, false, false, false, false, false, false, false, false, false, false, false, false, false, false] (by kernel_rfl) rfl rfl trivial (fun hHeld => ?_); refine with_tabW footwaylaw07_HashHalves.tab22 footwaylaw07_HashHalves.bits22 (fun HT_ HW_ => ?_)
                 generalize wr.drew = w64 at HO_0 HO_8 HO_68 HB HO192 HO200 hHeld ⊢
                 refine pure_ (i := 1) (N := some 112) (v := ?_) (a' := ?_) #[false, true, false, false, false, false, false, false, false, false, false, false, false, false, false, false] rfl rfl (any_of HT_.out (by kernel_rfl)) (fun _ _ _ h => h) (Or.inl ⟨by rfl, ?_⟩) ?_ ?_
                 rotate_left
                 ·intro w'
                  go_simp
                  with_reducible rfl
                 rotate_left
                 ·simp only [Act.put, List.setIfInBounds_toArray, List.set_cons_zero, List.set_cons_succ, i64_w, i32_w]
                  rfl
                 refine pure_ (i := 2) (N := some 113) (v := ?_) (a' := ?_) #[false, true, true, false, false, false, false, false, false, false, false, false, false, false, false, false] rfl rfl (any_of HT_.out (by kernel_rfl)) (fun _ _ _ h => h) (Or.inl ⟨by rfl, ?_⟩) ?_ ?_
                 rotate_left
                 ·intro w'
                  go_simp
                  with_reducible rfl
                 rotate_left
                 ·simp only [Act.put, List.setIfInBounds_toArray, List.set_cons_zero, List.set_cons_succ, i64_w, i32_w]
                  rfl
                 refine pure_ (i := 3) (N := some 114) (v := ?_) (a' := ?_) #[false, true, true, true, false, false, false, false, false, false, false, false, false, false, false, false] rfl rfl (any_of HT_.out (by kernel_rfl)) (fun _ _ _ h => h) (Or.inl ⟨by rfl, ?_⟩) ?_ ?_
                 rotate_left
                 ·intro w'
                  go_simp
                  with_reducible rfl
                 rotate_left
                 ·simp only [Act.put, List.setIfInBounds_toArray, List.set_cons_zero, List.set_cons_succ, i64_w, i32_w]
                  rfl
                 refine pure_ (i := 5) (N := some 116) (v := ?_) (a' := ?_) #[false, true, true, true, false, true, false, false, false, false, false, false, false, false, false, false] rfl rfl (any_of HT_.out (by kernel_rfl)) (fun _ _ _ h => h) (Or.inl ⟨by rfl, ?_⟩) ?_ ?_
                 rotate_left
                 ·intro w'
                  go_simp
                  with_reducible rfl
                 rotate_left
                 ·simp only [Act.put, List.setIfInBounds_toArray, List.set_cons_zero, List.set_cons_succ, i64_w, i32_w]
                  rfl
                 refine pure_ (i := 6) (N := some 117) (v := ?_) (a' := ?_) #[false, true, true, true, false, true, true, false, false, false, false, false, false, false, false, false] rfl rfl (any_of HT_.out (by kernel_rfl)) (fun _ _ _ h => h) (Or.inl ⟨by rfl, ?_⟩) ?_ ?_
                 rotate_left
                 ·intro w'
                  go_simp
                  with_reducible rfl
                 rotate_left
                 ·simp only [Act.put, List.setIfInBounds_toArray, List.set_cons_zero, List.set_cons_succ, i64_w, i32_w]
                  rfl
                 refine pure_ (i := 7) (N := some 118) (v := ?_) (a' := ?_) #[false, true, true, true, false, true, true, true, false, false, false, false, false, false, false, false] rfl rfl (any_of HT_.out (by kernel_rfl)) (fun _ _ _ h => h) (Or.inl ⟨by rfl, ?_⟩) ?_ ?_
                 rotate_left
                 ·intro w'
                  go_simp
                  with_reducible rfl
                 rotate_left
                 ·simp only [Act.put, List.setIfInBounds_toArray, List.set_cons_zero, List.set_cons_succ, i64_w, i32_w]
                  rfl
                 refine pure_ (i := 9) (N := some 120) (v := ?_) (a' := ?_) #[false, true, true, true, false, true, true, true, false, true, false, false, false, false, false, false] rfl rfl (any_of HT_.out (by kernel_rfl)) (fun _ _ _ h => h) (Or.inl ⟨by rfl, ?_⟩) ?_ ?_
                 rotate_left
                 ·intro w'
                  go_simp
                  with_reducible rfl
                 rotate_left
                 ·simp only [Act.put, List.setIfInBounds_toArray, List.set_cons_zero, List.set_cons_succ, i64_w, i32_w]
                  rfl
                 refine one_ (i := 0) (N := some 111) #[true, true, true, true, false, true, true, true, false, true, false, false, false, false, false, false] rfl rfl (one_of HT_.out (by kernel_rfl)) (by decide) (fun K hK => ?_)
                 refine Kd.R_lit_step (Kd.int .i64) _ 3 ?hg (N := 111) ?hd (xs := ([] : List Int)) (inner := []) (ok := fun _ => True) (okp := fun _ => True) ?hr ?hp (fun _ hk => hk) trivial (Below.refl _ _) (Nat.le_refl _) (by simp) ?_; (case hd => rfl); (case hg => rfl); (case hr => first | (go_simp; done) | (go_simp; rfl)); (case hp => exact (Reps.none _ _))
                 intro v186 w67 ho68 hb hg_ hnew_
                 clear hg_ hnew_
                 (first | rw [← Ny185.out] at ho68 | (simp only [Int.reduceToNat] at ho68; rw [← Ny185.out] at ho68))
                 have n0_ := Aside0.mk (Kd.V_elder' (by (with_reducible repeat (first | apply Kd.V_alloc | apply Kd.V_drewN | apply Kd.V_drew)); exact HO_0.out) (Kd.R_base ho68) hb)
                 have n1_ := Aside0.mk (Kd.R_elder' (by (with_reducible repeat (first | apply Kd.R_alloc | apply Kd.R_drewN | apply Kd.R_drew)); exact HO_8.out) (Kd.R_base ho68) hb)
                 have n2_ := Aside0.mk (Kd.R_elder' (by (with_reducible repeat (first | apply Kd.R_alloc | apply Kd.R_drewN | apply Kd.R_drew)); exact HO_68.out) (Kd.R_base ho68) hb)
                 have n3_ := Aside0.mk (Kd.V_elder' (by (with_reducible repeat (first | apply Kd.V_alloc | apply Kd.V_drewN | apply Kd.V_drew)); exact HO192.out) (Kd.R_base ho68) hb)
                 have n4_ := Aside0.mk (Kd.V_elder' (by (with_reducible repeat (first | apply Kd.V_alloc | apply Kd.V_drewN | apply Kd.V_drew)); exact HO200.out) (Kd.R_base ho68) hb)
                 have n5_ := Aside0.mk (Kd.R_lower (Kd.R_new' (Kd.R_new' ho68 (Kd.R_lt (by (with_reducible repeat (first | apply Kd.R_alloc | apply Kd.R_drewN | apply Kd.R_drew)); exact HO_8.out))) (Kd.R_lt (by (with_reducible repeat (first | apply Kd.R_alloc | apply Kd.R_drewN | apply Kd.R_drew)); exact HO_68.out))) (below_size (by repeat (first | (with_reducible first | exact HB.out | apply below_alloc | apply pw_below_drewN | apply below_drew1) | exact HB.out))))
                 have n6_ := Aside0.mk (below_step (by repeat (first | (with_reducible first | exact HB.out | apply below_alloc | apply pw_below_drewN | apply below_drew1) | exact HB.out)) hb)
                 clear HO_0
                 clear HO_8
                 clear HO_68
                 clear HO192
                 clear HO200
                 clear HB
                 have HO_0 := n0_
                 have HO_8 := n1_
                 have HO_68 := n2_
                 have HO192 := n3_
                 have HO200 := n4_
                 have HO187 := n5_
                 have HB := n6_
                 clear n0_ n1_ n2_ n3_ n4_ n5_ n6_
                 clear hb ho68
                 refine hK.out _ _ trivial (fun hHeld => ?_)
                 clear hK K
                 refine norm_ (a' := ?_) ?_ ?_
                 rotate_left
                 ·show Act.put _ (some 111) _ = _
                  simp only [Act.put, List.setIfInBounds_toArray, List.set_cons_zero, List.set_cons_succ, i64_w, i32_w]
                  rfl
                 refine one_ (i := 4) (N := some 115) #[true, true, true, true, true, true, true, true, false, true, false, false, false, false, false, false] rfl rfl (one_of HT_.out (by kernel_rfl)) (by decide) (fun K hK => ?_)
                 refine Kd.R_append_rows_step (Kd.int .i64) (w0 := w) w.heap.size (by rfl) (.tmp 111) (.tmp 114) 57 3 (.int .i64 0) 8 rfl Th.underlying57 info3 rfl (by decide) (by omega) v186 y185 y188 _ _ _ (fun k_ => some k_ ≠ (v174 : Value).ownBlock ∧ some k_ ≠ (.slice Ao27 t176.length co27 : Value).ownBlock) (fun _ => False) rfl rfl ?aO ?aR (fun _ _ h => h) (fun _ h => h.elim) ?aF ?aB ?aS ?aL ?_
                 (case aR => repeat (first | exact (Kd.V_reads' HO192.out).2.2 | (with_reducible refine Kd.C_alloc ?_ _) | (with_reducible refine Kd.C_drewN ?_ _) | (with_reducible refine Kd.C_drew ?_)))
                 (case aB => exact (by repeat (first | (with_reducible first | exact HB.out | apply below_alloc | apply pw_below_drewN | apply below_drew1) | exact HB.out)))
                 (case aF => exact (fun k_ hk => ⟨Kd.fresh' (Kd.R_lt (by (with_reducible repeat (first | apply Kd.R_alloc | apply Kd.R_drewN | apply Kd.R_drew)); exact HO_8.out)) k_ hk, Kd.fresh' (Kd.R_lt (by (with_reducible repeat (first | apply Kd.R_alloc | apply Kd.R_drewN | apply Kd.R_drew)); exact HO_68.out)) k_ hk⟩))
                 (case aO => exact (by (with_reducible repeat (first | apply Kd.R_alloc | apply Kd.R_drewN | apply Kd.R_drew)); exact Kd.R_mono HO187.out (fun _ hk => ⟨hk.1.2, hk.2⟩)))
                 (case aS => exact (below_size (by repeat (first | (with_reducible first | exact HB.out | apply below_alloc | apply pw_below_drewN | apply below_drew1) | exact HB.out))))
                 (case aL => have := LMc46.out; omega)
                 intro v194 w69 ho hb hg hat
                 rw [← Ny193.out] at ho
                 have n0_ := Aside0.mk (Kd.V_afterv (ok := (fun k_ => some k_ ≠ (v174 : Value).ownBlock ∧ some k_ ≠ (.slice Ao27 t176.length co27 : Value).ownBlock)) (by (with_reducible repeat (first | apply Kd.V_alloc | apply Kd.V_drewN | apply Kd.V_drew)); exact HO_0.out) hg hat)
                 have n1_ := Aside0.mk (Kd.R_after (ok := (fun k_ => some k_ ≠ (.slice Ao27 t176.length co27 : Value).ownBlock)) (by (with_reducible repeat (first | apply Kd.R_alloc | apply Kd.R_drewN | apply Kd.R_drew)); exact HO_8.out) hg hat)
                 have n2_ := Aside0.mk (Kd.R_after (ok := (fun k_ => some k_ ≠ (v174 : Value).ownBlock)) (by (with_reducible repeat (first | apply Kd.R_alloc | apply Kd.R_drewN | apply Kd.R_drew)); exact HO_68.out) hg hat)
                 have n3_ := Aside0.mk (Kd.V_afterv (ok := (fun k_ => some k_ ≠ (v174 : Value).ownBlock ∧ some k_ ≠ (.slice Ao27 t176.length co27 : Value).ownBlock)) (by (with_reducible repeat (first | apply Kd.V_alloc | apply Kd.V_drewN | apply Kd.V_drew)); exact HO192.out) hg hat)
                 have n4_ := Aside0.mk (Kd.V_afterv (ok := (fun k_ => some k_ ≠ (v174 : Value).ownBlock ∧ some k_ ≠ (.slice Ao27 t176.length co27 : Value).ownBlock)) (by (with_reducible repeat (first | apply Kd.V_alloc | apply Kd.V_drewN | apply Kd.V_drew)); exact HO200.out) hg hat)
                 have n5_ := Aside0.mk (hb)
                 have n6_ := Aside0.mk (ho)
                 clear HO_0
                 clear HO_8
                 clear HO_68
                 clear HO192
                 clear HO200
                 clear HB
                 clear HO187
                 have HO_0 := n0_
                 have HO_8 := n1_
                 have HO_68 := n2_
                 have HO192 := n3_
                 have HO200 := n4_
                 have HB := n5_
                 have HO195 := n6_
                 clear n0_ n1_ n2_ n3_ n4_ n5_ n6_
                 clear ho hb hg hat
                 refine hK.out _ _ trivial (fun hHeld => ?_)
                 clear hK K
                 refine norm_ (a' := ?_) ?_ ?_
                 rotate_left
                 ·show Act.put _ (some 115) _ = _
                  simp only [Act.put, List.setIfInBounds_toArray, List.set_cons_zero, List.set_cons_succ, i64_w, i32_w]
                  rfl
                 refine one_ (i := 8) (N := some 119) #[true, true, true, true, true, true, true, true, true, true, false, false, false, false, false, false] rfl rfl (one_of HT_.out (by kernel_rfl)) (by decide) (fun K hK => ?_)
                 refine Kd.R_append_rows_step (Kd.int .i64) (w0 := w) w.heap.size (by rfl) (.tmp 115) (.tmp 118) 57 3 (.int .i64 0) 8 rfl Th.underlying57 info3 rfl (by decide) (by omega) v194 y193 y196 _ _ _ (fun k_ => some k_ ≠ (v174 : Value).ownBlock ∧ some k_ ≠ (.slice Ao27 t176.length co27 : Value).ownBlock) (fun _ => False) rfl rfl ?aO ?aR (fun _ _ h => h) (fun _ h => h.elim) ?aF ?aB ?aS ?aL ?_
                 (case aR => repeat (first | exact (Kd.V_reads' HO200.out).2.2 | (with_reducible refine Kd.C_alloc ?_ _) | (with_reducible refine Kd.C_drewN ?_ _) | (with_reducible refine Kd.C_drew ?_)))
                 (case aB => exact (by repeat (first | (with_reducible first | exact HB.out | apply below_alloc | apply pw_below_drewN | apply below_drew1) | exact HB.out)))
                 (case aF => exact (fun k_ hk => ⟨Kd.fresh' (Kd.R_lt (by (with_reducible repeat (first | apply Kd.R_alloc | apply Kd.R_drewN | apply Kd.R_drew)); exact HO_8.out)) k_ hk, Kd.fresh' (Kd.R_lt (by (with_reducible repeat (first | apply Kd.R_alloc | apply Kd.R_drewN | apply Kd.R_drew)); exact HO_68.out)) k_ hk⟩))
                 (case aO => exact (by (with_reducible repeat (first | apply Kd.R_alloc | apply Kd.R_drewN | apply Kd.R_drew)); exact HO195.out))
                 (case aS => exact (below_size (by repeat (first | (with_reducible first | exact HB.out | apply below_alloc | apply pw_below_drewN | apply below_drew1) | exact HB.out))))
                 (case aL => have := LMc49.out; omega)
                 intro v202 w70 ho hb hg hat
                 rw [← Ny201.out] at ho
                 have n0_ := Aside0.mk (Kd.V_afterv (ok := (fun k_ => some k_ ≠ (v174 : Value).ownBlock ∧ some k_ ≠ (.slice Ao27 t176.length co27 : Value).ownBlock)) (by (with_reducible repeat (first | apply Kd.V_alloc | apply Kd.V_drewN | apply Kd.V_drew)); exact HO_0.out) hg hat)
                 have n1_ := Aside0.mk (Kd.R_after (ok := (fun k_ => some k_ ≠ (.slice Ao27 t176.length co27 : Value).ownBlock)) (by (with_reducible repeat (first | apply Kd.R_alloc | apply Kd.R_drewN | apply Kd.R_drew)); exact HO_8.out) hg hat)
                 have n2_ := Aside0.mk (Kd.R_after (ok := (fun k_ => some k_ ≠ (v174 : Value).ownBlock)) (by (with_reducible repeat (first | apply Kd.R_alloc | apply Kd.R_drewN | apply Kd.R_drew)); exact HO_68.out) hg hat)
                 have n3_ := Aside0.mk (Kd.V_afterv (ok := (fun k_ => some k_ ≠ (v174 : Value).ownBlock ∧ some k_ ≠ (.slice Ao27 t176.length co27 : Value).ownBlock)) (by (with_reducible repeat (first | apply Kd.V_alloc | apply Kd.V_drewN | apply Kd.V_drew)); exact HO192.out) hg hat)
                 have n4_ := Aside0.mk (Kd.V_afterv (ok := (fun k_ => some k_ ≠ (v174 : Value).ownBlock ∧ some k_ ≠ (.slice Ao27 t176.length co27 : Value).ownBlock)) (by (with_reducible repeat (first | apply Kd.V_alloc | apply Kd.V_drewN | apply Kd.V_drew)); exact HO200.out) hg hat)
                 have n5_ := Aside0.mk (hb)
                 have n6_ := Aside0.mk (ho)
                 clear HO_0
                 clear HO_8
                 clear HO_68
                 clear HO192
                 clear HO200
                 clear HB
                 clear HO195
                 have HO_0 := n0_
                 have HO_8 := n1_
                 have HO_68 := n2_
                 have HO192 := n3_
                 have HO200 := n4_
                 have HB := n5_
                 have HO203 := n6_
                 clear n0_ n1_ n2_ n3_ n4_ n5_ n6_
                 clear ho hb hg hat
                 obtain ⟨Ao71, co71, eo71⟩ := Kd.R_slice HO203.out
                 (first | subst eo71 | (injection eo71 with f1_ f2_ f3_; have f4_ := f1_.symm; have f5_ := f3_.symm; clear f1_ f2_ f3_; subst f4_; subst f5_))
                 refine hK.out _ _ trivial (fun hHeld => ?_)
                 clear hK K
                 refine norm_ (a' := ?_) ?_ ?_
                 rotate_left
                 ·show Act.put _ (some 119) _ = _
                  simp only [Act.put, List.setIfInBounds_toArray, List.set_cons_zero, List.set_cons_succ, i64_w, i32_w]
                  rfl
                 refine one_ (i := 10) (N := some 121) #[true, true, true, true, true, true, true, true, true, true, true, false, false, false, false, false] rfl rfl (one_of HT_.out (by kernel_rfl)) (by decide) (fun K hK => ?_)
                 refine goes_ Th.func45 (by kernel_rfl) rfl #[.slice Ao71 y201.length co71, .int .i64 ji6] (by rfl) rfl rfl (by (try simp only [List.map_toArray, List.map_cons, List.map_nil]); first | done | (simp only [hji6]; rfl) | rfl | (simp only [List.length_drop, List.length_take]; rfl)) ?_
                 with_reducible refine (hash_Spread.calls _ _ y201 ji6 t204 t205 _ ?side1 ?side2 A50.out).mono ?_
                 (case side1 => repeat (first | exact (Kd.R_reads' HO203.out).2.2 | (with_reducible refine Kd.C_alloc ?_ _) | (with_reducible refine Kd.C_drewN ?_ _) | (with_reducible refine Kd.C_drew ?_)))
                 (case side2 => exact (Kd.R_reads' HO203.out).2.1)
                 rintro e w72 ⟨v206, rfl, ho0, hb⟩
                 refine ⟨_, rfl, ?_⟩
                 have n0_ := Aside0.mk (Kd.V_elder' (by (with_reducible repeat (first | apply Kd.V_alloc | apply Kd.V_drewN | apply Kd.V_drew)); exact HO_0.out) (Kd.R_base ho0) hb)
                 have n1_ := Aside0.mk (Kd.R_elder' (by (with_reducible repeat (first | apply Kd.R_alloc | apply Kd.R_drewN | apply Kd.R_drew)); exact HO_8.out) (Kd.R_base ho0) hb)
                 have n2_ := Aside0.mk (Kd.R_elder' (by (with_reducible repeat (first | apply Kd.R_alloc | apply Kd.R_drewN | apply Kd.R_drew)); exact HO_68.out) (Kd.R_base ho0) hb)
                 have n3_ := Aside0.mk (Kd.V_elder' (by (with_reducible repeat (first | apply Kd.V_alloc | apply Kd.V_drewN | apply Kd.V_drew)); exact HO192.out) (Kd.R_base ho0) hb)
                 have n4_ := Aside0.mk (Kd.V_elder' (by (with_reducible repeat (first | apply Kd.V_alloc | apply Kd.V_drewN | apply Kd.V_drew)); exact HO200.out) (Kd.R_base ho0) hb)
                 have n5_ := Aside0.mk (Kd.R_elder' (by (with_reducible repeat (first | apply Kd.R_alloc | apply Kd.R_drewN | apply Kd.R_drew)); exact HO203.out) (Kd.R_base ho0) hb)
                 have n6_ := Aside0.mk (Kd.R_lower (Kd.R_new' (Kd.R_new' (Kd.R_new' ho0 (Kd.R_lt (by (with_reducible repeat (first | apply Kd.R_alloc | apply Kd.R_drewN | apply Kd.R_drew)); exact HO_8.out))) (Kd.R_lt (by (with_reducible repeat (first | apply Kd.R_alloc | apply Kd.R_drewN | apply Kd.R_drew)); exact HO_68.out))) (Kd.R_lt (by (with_reducible repeat (first | apply Kd.R_alloc | apply Kd.R_drewN | apply Kd.R_drew)); exact HO203.out))) (below_size (by repeat (first | (with_reducible first | exact HB.out | apply below_alloc | apply pw_below_drewN | apply below_drew1) | exact HB.out))))
                 have n7_ := Aside0.mk (below_step (by repeat (first | (with_reducible first | exact HB.out | apply below_alloc | apply pw_below_drewN | apply below_drew1) | exact HB.out)) hb)
                 clear HO_0
                 clear HO_8
                 clear HO_68
                 clear HO192
                 clear HO200
                 clear HO203
                 clear HB
                 have HO_0 := n0_
                 have HO_8 := n1_
                 have HO_68 := n2_
                 have HO192 := n3_
                 have HO200 := n4_
                 have HO203 := n5_
                 have HO207 := n6_
                 have HB := n7_
                 clear n0_ n1_ n2_ n3_ n4_ n5_ n6_ n7_
                 (try clear hb)
                 (try clear hb2)
                 (try clear hk)
                 (try clear hi)
                 (try clear ho0)
                 refine hK.out _ _ trivial (fun hHeld => ?_)
                 clear hK K
                 refine norm_ (a' := ?_) ?_ ?_
                 rotate_left
                 ·show Act.put _ (some 121) _ = _
                  simp only [Act.put, List.setIfInBounds_toArray, List.set_cons_zero, List.set_cons_succ, i64_w, i32_w]
                  rfl
                 refine pure_ (i := 11) (N := some 110) (v := ?_) (a' := ?_) #[true, true, true, true, true, true, true, true, true, true, true, true, false, false, false, false] rfl rfl (any_of HT_.out (by kernel_rfl)) (fun _ _ _ h => h) (Or.inl ⟨by rfl, ?_⟩) ?_ ?_
                 rotate_left
                 ·intro w'
                  go_simp
                  with_reducible rfl
                 rotate_left
                 ·simp only [Act.put, List.setIfInBounds_toArray, List.set_cons_zero, List.set_cons_succ, i64_w, i32_w]
                  rfl
                 refine pure_ (i := 12) (N := some 122) (v := ?_) (a' := ?_) #[true, true, true, true, true, true, true, true, true, true, true, true, true, false, false, false] rfl rfl (any_of HT_.out (by kernel_rfl)) (fun _ _ _ h => h) (Or.inl ⟨by rfl, ?_⟩) ?_ ?_
                 rotate_left
                 ·intro w'
                  go_simp
                  with_reducible rfl
                 rotate_left
                 ·simp only [Act.put, List.setIfInBounds_toArray, List.set_cons_zero, List.set_cons_succ, i64_w, i32_w]
                  rfl
                 refine pure_ (i := 13) (N := some 123) (v := ?_) (a' := ?_) #[true, true, true, true, true, true, true, true, true, true, true, true, true, true, false, false] rfl rfl (any_of HT_.out (by kernel_rfl)) (fun _ _ _ h => h) (Or.inl ⟨by rfl, ?_⟩) ?_ ?_
                 rotate_left
                 ·intro w'
                  go_simp
                  with_reducible rfl
                 rotate_left
                 ·simp only [Act.put, List.setIfInBounds_toArray, List.set_cons_zero, List.set_cons_succ, i64_w, i32_w]
                  rfl
                 refine pure_ (i := 14) (N := some 15) (v := ?_) (a' := ?_) #[true, true, true, true, true, true, true, true, true, true, true, true, true, true, true, false] rfl rfl (any_of HT_.out (by kernel_rfl)) (fun _ _ _ h => h) (Or.inl ⟨by rfl, ?_⟩) ?_ ?_
                 rotate_left
                 ·intro w'
                  go_simp
                  with_reducible rfl
                 rotate_left
                 ·simp only [Act.put, List.setIfInBounds_toArray, List.set_cons_zero, List.set_cons_succ, i64_w, i32_w]
                  rfl
                 refine pure_ (i := 15) (N := some 16) (v := ?_) (a' := ?_) #[true, true, true, true, true, true, true, true, true, true, true, true, true, true, true, true] rfl rfl (any_of HT_.out (by kernel_rfl)) (fun _ _ _ h => h) (Or.inl ⟨by rfl, ?_⟩) ?_ ?_
                 rotate_left
                 ·intro w'
                  go_simp
                  with_reducible rfl
                 rotate_left
                 ·simp only [Act.put, List.setIfInBounds_toArray, List.set_cons_zero, List.set_cons_succ, i64_w, i32_w]
                  rfl
                 refine done_ (done_of HT_.out (by kernel_rfl)) ?_
                 try go_wp2
                 go_ret
                 exact ⟨by first | rfl | (simp [errW_none, errW_some] <;> rfl) | (simp only [← hji4, ← hji6, ← hji43]; first | rfl | (simp [errW_none, errW_some] <;> rfl)) | (simp [*, errW_none, errW_some] <;> rfl), by repeat (first | (with_reducible first | exact HB.out | apply below_alloc | apply pw_below_drewN | apply below_drew1) | exact HB.out)⟩
               ·rw [if_neg c49] at H
                exact absurd H (by simp)
              ·rw [if_neg c46] at H
               exact absurd H (by simp)
             ·rw [if_neg c45] at H
              exact absurd H (by simp)
            ·rw [if_neg c44] at H
             exact absurd H (by simp)
          ·rw [if_neg c41] at H
           have c41b0 : decide (0 < (t169.length : Int)) = false := decide_eq_false c41
           have c41b1 : decide (0 < t169.length) = false := decide_eq_false (by omega)
           clear c41
           obtain ⟨y209, hy209⟩ : ∃ y_ : List Int, y_ = (([] : List Int)) := ⟨_, rfl⟩
           replace H : (if 0 ≤ (t169.length : Int) then ((some (t169.drop 0 : List Int)).bind fun y212 => (if y209.length + y212.length < 17592186044416 then ((some (y209 ++ y212 : List Int)).bind fun y217 => ((some (t169.take 0 : List Int)).bind fun y220 => (if y217.length + y220.length < 17592186044416 then ((hash_Spread.f (y217 ++ y220) ji6).bind fun bt228 => (if bt228.2 = 0 then ((footwayref06_Same.f k2 t172 bt228.1).bind fun t232 => (some t232)) else (some false))) else (none)))) else (none))) else (none)) = some r := by first | (rw [hy209]; with_reducible exact H) | (have H2_ := (Option.bind_some _ _).symm.trans H; rw [hy209]; with_reducible exact H2_) | (have H2_ := (Option.bind_some _ _).symm.trans H; with_reducible exact H2_) | with_reducible exact H | (rw [hy209]; exact H) | exact H
           have Ny209 := Aside0.mk hy209
           clear hy209
           by_cases c73 : 0 ≤ (t169.length : Int)
           ·rw [if_pos c73] at H
            have c73b0 := eq_true c73
            have c73b1 : decide (0 ≤ (t169.length : Int)) = true := decide_eq_true c73
            clear c73
            obtain ⟨y212, hy212⟩ : ∃ y_ : List Int, y_ = (t169.drop 0) := ⟨_, rfl⟩
            replace H : (if y209.length + y212.length < 17592186044416 then ((some (y209 ++ y212 : List Int)).bind fun y217 => ((some (t169.take 0 : List Int)).bind fun y220 => (if y217.length + y220.length < 17592186044416 then ((hash_Spread.f (y217 ++ y220) ji6).bind fun bt228 => (if bt228.2 = 0 then ((footwayref06_Same.f k2 t172 bt228.1).bind fun t232 => (some t232)) else (some false))) else (none)))) else (none)) = some r := by first | (rw [hy212]; with_reducible exact H) | (have H2_ := (Option.bind_some _ _).symm.trans H; rw [hy212]; with_reducible exact H2_) | (have H2_ := (Option.bind_some _ _).symm.trans H; with_reducible exact H2_) | with_reducible exact H | (rw [hy212]; exact H) | exact H
            have Ny212 := Aside0.mk hy212
            clear hy212
            by_cases c74 : y209.length + y212.length < 17592186044416
            ·rw [if_pos c74] at H
             have LMc74 := Aside0.mk c74
             clear c74
             obtain ⟨y217, hy217⟩ : ∃ y_ : List Int, y_ = (y209 ++ y212) := ⟨_, rfl⟩
             replace H : ((some (t169.take 0 : List Int)).bind fun y220 => (if y217.length + y220.length < 17592186044416 then ((hash_Spread.f (y217 ++ y220) ji6).bind fun bt228 => (if bt228.2 = 0 then ((footwayref06_Same.f k2 t172 bt228.1).bind fun t232 => (some t232)) else (some false))) else (none))) = some r := by first | (rw [hy217]; with_reducible exact H) | (have H2_ := (Option.bind_some _ _).symm.trans H; rw [hy217]; with_reducible exact H2_) | (have H2_ := (Option.bind_some _ _).symm.trans H; with_reducible exact H2_) | with_reducible exact H | (rw [hy217]; exact H) | exact H
             have Ny217 := Aside0.mk hy217
             clear hy217
             have c75b0 := eq_true (of_decide_eq_true (by first | (with_reducible assumption) | assumption) : 0 ≤ (t169.length : Int))
             obtain ⟨y220, hy220⟩ : ∃ y_ : List Int, y_ = (t169.take 0) := ⟨_, rfl⟩
             replace H : (if y217.length + y220.length < 17592186044416 then ((hash_Spread.f (y217 ++ y220) ji6).bind fun bt228 => (if bt228.2 = 0 then ((footwayref06_Same.f k2 t172 bt228.1).bind fun t232 => (some t232)) else (some false))) else (none)) = some r := by first | (rw [hy220]; with_reducible exact H) | (have H2_ := (Option.bind_some _ _).symm.trans H; rw [hy220]; with_reducible exact H2_) | (have H2_ := (Option.bind_some _ _).symm.trans H; with_reducible exact H2_) | with_reducible exact H | (rw [hy220]; exact H) | exact H
             have Ny220 := Aside0.mk hy220
             clear hy220
             by_cases c76 : y217.length + y220.length < 17592186044416
             ·rw [if_pos c76] at H
              have LMc76 := Aside0.mk c76
              clear c76
              obtain ⟨y225, hy225⟩ : ∃ y_ : List Int, y_ = (y217 ++ y220) := ⟨_, rfl⟩
              replace H : ((hash_Spread.f y225 ji6).bind fun bt228 => (if bt228.2 = 0 then ((footwayref06_Same.f k2 t172 bt228.1).bind fun t232 => (some t232)) else (some false))) = some r := by first | (rw [hy225]; with_reducible exact H) | (have H2_ := (Option.bind_some _ _).symm.trans H; rw [hy225]; with_reducible exact H2_) | (have H2_ := (Option.bind_some _ _).symm.trans H; with_reducible exact H2_) | with_reducible exact H | (rw [hy225]; exact H) | exact H
              have Ny225 := Aside0.mk hy225
              clear hy225
              replace H := Option.bind_eq_some_iff.mp H
              obtain ⟨⟨t228, t229⟩, A770, H⟩ := H
              replace H : (if t229 = 0 then ((footwayref06_Same.f k2 t172 t228).bind fun t232 => (some t232)) else (some false)) = some r := H
              have A77 := Aside0.mk A770
              clear A770
              by_cases c78 : t229 = 0
              ·rw [if_pos c78] at H
               have c78b0 : (t229 == 0) = true := beq_iff_eq.mpr c78
               have c78b1 : (t229 != 0) = false := bne_eq_false_iff_eq.mpr c78
               clear c78
               replace H := Option.bind_eq_some_iff.mp H
               obtain ⟨t232, A790, H⟩ := H
               replace H : (some t232) = some r := H
               have A79 := Aside0.mk A790
               clear A790
               obtain rfl := Option.some.inj H
               try go_wp2
               have n0_ := Aside0.mk (Kd.V_drew HO_0.out)
               have n1_ := Aside0.mk (Kd.R_drew HO_8.out)
               have n2_ := Aside0.mk (Kd.R_drew HO_68.out)
               have n3_ := Aside0.mk (below_drew1 HB.out)
               clear HO_0
               clear HO_8
               clear HO_68
               clear HB
               have HO_0 := n0_
               have HO_8 := n1_
               have HO_68 := n2_
               have HB := n3_
               clear n0_ n1_ n2_ n3_
               have q81 : (0 : Int) ≤ ((t169.length : Int) : Int) := of_decide_eq_true (by first | (with_reducible assumption) | assumption)
               obtain ⟨i081, hi081, _, hsz81, _⟩ := info_parts info3
               have hroom81 : t169.length ≤ co13 := (Kd.V_reads' HO_0.out).2.1
               have hC81 : Kd.F (Kd.int .i64) _ _ Ao13 t169.length t169 := (Kd.V_at (base := w.heap.size) HO_0.out).2.2
               have hcut81 := cut_from (P := Th.prog) 57 3 .i64 Th.underlying57 hi081 1 hsz81 Ao13 t169.length co13 0 (by omega) q81
               have hr81 := Kd.F_cut (m := (0 : Int).toNat) (c := co13) hC81 (by omega) hroom81
               obtain ⟨A81, hA81⟩ : ∃ A1, A1 = (if co13 = (0 : Int).toNat then Ao13 else (Ao13 : Option Addr).map (·.add ((0 : Int).toNat * 1))) := ⟨_, rfl⟩
               obtain ⟨c81, hc81⟩ : ∃ c1, c1 = co13 - (0 : Int).toNat := ⟨_, rfl⟩
               have hy81 : y212.length = t169.length - (0 : Int).toNat := (by rw [Ny212.out, List.length_drop] <;> omega)
               rw [show (t169).drop (0 : Int).toNat = y212 from Ny212.out.symm] at hr81
               replace hr81 : Kd.F (Kd.int .i64) _ _ A81 y212.length y212 := (by rw [hA81]; exact hr81)
               rw [← hy81, ← hA81, ← hc81] at hcut81
               have HO216 := Aside0.mk (show Kd.V (Kd.int .i64) 3 _ w.heap.size _ (.slice A81 y212.length c81) y212 from Kd.V_mk (by rw [hy81, hc81]; exact Nat.sub_le_sub_right hroom81 _) hr81)
               have HC216 := Aside0.mk (show y212.length ≤ c81 from by rw [hy81, hc81]; exact Nat.sub_le_sub_right hroom81 _)
               clear hr81 hC81 hroom81 hi081 hsz81 hc81
               have KY81 := Aside0.mk hy81
               have KA81 := Aside0.mk hA81
               clear hy81 hA81
               replace q81 := eq_true q81
               have q82 : (0 : Int) ≤ ((t169.length : Int) : Int) := of_decide_eq_true (by first | (with_reducible assumption) | assumption)
               obtain ⟨i082, hi082, _, hsz82, _⟩ := info_parts info3
               have hroom82 : t169.length ≤ co13 := (Kd.V_reads' HO_0.out).2.1
               have hC82 : Kd.F (Kd.int .i64) _ _ Ao13 t169.length t169 := (Kd.V_at (base := w.heap.size) HO_0.out).2.2
               have hcut82 := cut_to (P := Th.prog) 57 3 .i64 Th.underlying57 hi082 Ao13 t169.length co13 0 (by omega) q82 hroom82
               have hr82 := Kd.F_take (m := 0) hC82 (by omega)
               have hy82 : y220.length = (0 : Int).toNat := (by rw [Ny220.out, List.length_take]; omega)
               rw [← Ny220.out] at hr82
               rw [← hy82] at hcut82
               have HO224 := Aside0.mk (show Kd.V (Kd.int .i64) 3 _ w.heap.size _ (.slice Ao13 y220.length co13) y220 from Kd.V_mk (by omega) hr82)
               have HC224 := Aside0.mk (show y220.length ≤ co13 from by omega)
               clear hr82 hC82 hroom82 hi082 hsz82
               have KY82 := Aside0.mk hy82
               clear hy82
               replace q82 := eq_true q82
               refine start_ (n := 16) (S := fun w' => True) (ds := []) #[false, false, false, false, false, false, false, false, false, false, false, false, false, false, false, false] (by kernel_rfl) rfl rfl trivial (fun hHeld => ?_); refine with_tabW footwaylaw07_HashHalves.tab22 footwaylaw07_HashHalves.bits22 (fun HT_ HW_ => ?_)
               generalize wr.drew = w80 at HO_0 HO_8 HO_68 HB HO216 HO224 hHeld ⊢
               refine pure_ (i := 1) (N := some 112) (v := ?_) (a' := ?_) #[false, true, false, false, false, false, false, false, false, false, false, false, false, false, false, false] rfl rfl (any_of HT_.out (by kernel_rfl)) (fun _ _ _ h => h) (Or.inl ⟨by rfl, ?_⟩) ?_ ?_
               rotate_left
               ·intro w'
                go_simp
                with_reducible rfl
               rotate_left
               ·simp only [Act.put, List.setIfInBounds_toArray, List.set_cons_zero, List.set_cons_succ, i64_w, i32_w]
                rfl
               refine pure_ (i := 2) (N := some 113) (v := ?_) (a' := ?_) #[false, true, true, false, false, false, false, false, false, false, false, false, false, false, false, false] rfl rfl (any_of HT_.out (by kernel_rfl)) (fun _ _ _ h => h) (Or.inl ⟨by rfl, ?_⟩) ?_ ?_
               rotate_left
               ·intro w'
                go_simp
                with_reducible rfl
               rotate_left
               ·simp only [Act.put, List.setIfInBounds_toArray, List.set_cons_zero, List.set_cons_succ, i64_w, i32_w]
                rfl
               refine pure_ (i := 3) (N := some 114) (v := ?_) (a' := ?_) #[false, true, true, true, false, false, false, false, false, false, false, false, false, false, false, false] rfl rfl (any_of HT_.out (by kernel_rfl)) (fun _ _ _ h => h) (Or.inl ⟨by rfl, ?_⟩) ?_ ?_
               rotate_left
               ·intro w'
                go_simp
                with_reducible rfl
               rotate_left
               ·simp only [Act.put, List.setIfInBounds_toArray, List.set_cons_zero, List.set_cons_succ, i64_w, i32_w]
                rfl
               refine pure_ (i := 5) (N := some 116) (v := ?_) (a' := ?_) #[false, true, true, true, false, true, false, false, false, false, false, false, false, false, false, false] rfl rfl (any_of HT_.out (by kernel_rfl)) (fun _ _ _ h => h) (Or.inl ⟨by rfl, ?_⟩) ?_ ?_
               rotate_left
               ·intro w'
                go_simp
                with_reducible rfl
               rotate_left
               ·simp only [Act.put, List.setIfInBounds_toArray, List.set_cons_zero, List.set_cons_succ, i64_w, i32_w]
                rfl
               refine pure_ (i := 6) (N := some 117) (v := ?_) (a' := ?_) #[false, true, true, true, false, true, true, false, false, false, false, false, false, false, false, false] rfl rfl (any_of HT_.out (by kernel_rfl)) (fun _ _ _ h => h) (Or.inl ⟨by rfl, ?_⟩) ?_ ?_
               rotate_left
               ·intro w'
                go_simp
                with_reducible rfl
               rotate_left
               ·simp only [Act.put, List.setIfInBounds_toArray, List.set_cons_zero, List.set_cons_succ, i64_w, i32_w]
                rfl
               refine pure_ (i := 7) (N := some 118) (v := ?_) (a' := ?_) #[false, true, true, true, false, true, true, true, false, false, false, false, false, false, false, false] rfl rfl (any_of HT_.out (by kernel_rfl)) (fun _ _ _ h => h) (Or.inl ⟨by rfl, ?_⟩) ?_ ?_
               rotate_left
               ·intro w'
                go_simp
                with_reducible rfl
               rotate_left
               ·simp only [Act.put, List.setIfInBounds_toArray, List.set_cons_zero, List.set_cons_succ, i64_w, i32_w]
                rfl
               refine pure_ (i := 9) (N := some 120) (v := ?_) (a' := ?_) #[false, true, true, true, false, true, true, true, false, true, false, false, false, false, false, false] rfl rfl (any_of HT_.out (by kernel_rfl)) (fun _ _ _ h => h) (Or.inl ⟨by rfl, ?_⟩) ?_ ?_
               rotate_left
               ·intro w'
                go_simp
                with_reducible rfl
               rotate_left
               ·simp only [Act.put, List.setIfInBounds_toArray, List.set_cons_zero, List.set_cons_succ, i64_w, i32_w]
                rfl
               refine one_ (i := 0) (N := some 111) #[true, true, true, true, false, true, true, true, false, true, false, false, false, false, false, false] rfl rfl (one_of HT_.out (by kernel_rfl)) (by decide) (fun K hK => ?_)
               refine Kd.R_lit_step (Kd.int .i64) _ 3 ?hg (N := 111) ?hd (xs := ([] : List Int)) (inner := []) (ok := fun _ => True) (okp := fun _ => True) ?hr ?hp (fun _ hk => hk) trivial (Below.refl _ _) (Nat.le_refl _) (by simp) ?_; (case hd => rfl); (case hg => rfl); (case hr => first | (go_simp; done) | (go_simp; rfl)); (case hp => exact (Reps.none _ _))
               intro v210 w83 ho84 hb hg_ hnew_
               clear hg_ hnew_
               (first | rw [← Ny209.out] at ho84 | (simp only [Int.reduceToNat] at ho84; rw [← Ny209.out] at ho84))
               have n0_ := Aside0.mk (Kd.V_elder' (by (with_reducible repeat (first | apply Kd.V_alloc | apply Kd.V_drewN | apply Kd.V_drew)); exact HO_0.out) (Kd.R_base ho84) hb)
               have n1_ := Aside0.mk (Kd.R_elder' (by (with_reducible repeat (first | apply Kd.R_alloc | apply Kd.R_drewN | apply Kd.R_drew)); exact HO_8.out) (Kd.R_base ho84) hb)
               have n2_ := Aside0.mk (Kd.R_elder' (by (with_reducible repeat (first | apply Kd.R_alloc | apply Kd.R_drewN | apply Kd.R_drew)); exact HO_68.out) (Kd.R_base ho84) hb)
               have n3_ := Aside0.mk (Kd.V_elder' (by (with_reducible repeat (first | apply Kd.V_alloc | apply Kd.V_drewN | apply Kd.V_drew)); exact HO216.out) (Kd.R_base ho84) hb)
               have n4_ := Aside0.mk (Kd.V_elder' (by (with_reducible repeat (first | apply Kd.V_alloc | apply Kd.V_drewN | apply Kd.V_drew)); exact HO224.out) (Kd.R_base ho84) hb)
               have n5_ := Aside0.mk (Kd.R_lower (Kd.R_new' (Kd.R_new' ho84 (Kd.R_lt (by (with_reducible repeat (first | apply Kd.R_alloc | apply Kd.R_drewN | apply Kd.R_drew)); exact HO_8.out))) (Kd.R_lt (by (with_reducible repeat (first | apply Kd.R_alloc | apply Kd.R_drewN | apply Kd.R_drew)); exact HO_68.out))) (below_size (by repeat (first | (with_reducible first | exact HB.out | apply below_alloc | apply pw_below_drewN | apply below_drew1) | exact HB.out))))
               have n6_ := Aside0.mk (below_step (by repeat (first | (with_reducible first | exact HB.out | apply below_alloc | apply pw_below_drewN | apply below_drew1) | exact HB.out)) hb)
               clear HO_0
               clear HO_8
               clear HO_68
               clear HO216
               clear HO224
               clear HB
               have HO_0 := n0_
               have HO_8 := n1_
               have HO_68 := n2_
               have HO216 := n3_
               have HO224 := n4_
               have HO211 := n5_
               have HB := n6_
               clear n0_ n1_ n2_ n3_ n4_ n5_ n6_
               clear hb ho84
               refine hK.out _ _ trivial (fun hHeld => ?_)
               clear hK K
               refine norm_ (a' := ?_) ?_ ?_
               rotate_left
               ·show Act.put _ (some 111) _ = _
                simp only [Act.put, List.setIfInBounds_toArray, List.set_cons_zero, List.set_cons_succ, i64_w, i32_w]
                rfl
               refine one_ (i := 4) (N := some 115) #[true, true, true, true, true, true, true, true, false, true, false, false, false, false, false, false] rfl rfl (one_of HT_.out (by kernel_rfl)) (by decide) (fun K hK => ?_)
               refine Kd.R_append_rows_step (Kd.int .i64) (w0 := w) w.heap.size (by rfl) (.tmp 111) (.tmp 114) 57 3 (.int .i64 0) 8 rfl Th.underlying57 info3 rfl (by decide) (by omega) v210 y209 y212 _ _ _ (fun k_ => some k_ ≠ (v174 : Value).ownBlock ∧ some k_ ≠ (.slice Ao27 t176.length co27 : Value).ownBlock) (fun _ => False) rfl rfl ?aO ?aR (fun _ _ h => h) (fun _ h => h.elim) ?aF ?aB ?aS ?aL ?_
               (case aR => repeat (first | exact (Kd.V_reads' HO216.out).2.2 | (with_reducible refine Kd.C_alloc ?_ _) | (with_reducible refine Kd.C_drewN ?_ _) | (with_reducible refine Kd.C_drew ?_)))
               (case aB => exact (by repeat (first | (with_reducible first | exact HB.out | apply below_alloc | apply pw_below_drewN | apply below_drew1) | exact HB.out)))
               (case aF => exact (fun k_ hk => ⟨Kd.fresh' (Kd.R_lt (by (with_reducible repeat (first | apply Kd.R_alloc | apply Kd.R_drewN | apply Kd.R_drew)); exact HO_8.out)) k_ hk, Kd.fresh' (Kd.R_lt (by (with_reducible repeat (first | apply Kd.R_alloc | apply Kd.R_drewN | apply Kd.R_drew)); exact HO_68.out)) k_ hk⟩))
               (case aO => exact (by (with_reducible repeat (first | apply Kd.R_alloc | apply Kd.R_drewN | apply Kd.R_drew)); exact Kd.R_mono HO211.out (fun _ hk => ⟨hk.1.2, hk.2⟩)))
               (case aS => exact (below_size (by repeat (first | (with_reducible first | exact HB.out | apply below_alloc | apply pw_below_drewN | apply below_drew1) | exact HB.out))))
               (case aL => have := LMc74.out; omega)
               intro v218 w85 ho hb hg hat
               rw [← Ny217.out] at ho
               have n0_ := Aside0.mk (Kd.V_afterv (ok := (fun k_ => some k_ ≠ (v174 : Value).ownBlock ∧ some k_ ≠ (.slice Ao27 t176.length co27 : Value).ownBlock)) (by (with_reducible repeat (first | apply Kd.V_alloc | apply Kd.V_drewN | apply Kd.V_drew)); exact HO_0.out) hg hat)
               have n1_ := Aside0.mk (Kd.R_after (ok := (fun k_ => some k_ ≠ (.slice Ao27 t176.length co27 : Value).ownBlock)) (by (with_reducible repeat (first | apply Kd.R_alloc | apply Kd.R_drewN | apply Kd.R_drew)); exact HO_8.out) hg hat)
               have n2_ := Aside0.mk (Kd.R_after (ok := (fun k_ => some k_ ≠ (v174 : Value).ownBlock)) (by (with_reducible repeat (first | apply Kd.R_alloc | apply Kd.R_drewN | apply Kd.R_drew)); exact HO_68.out) hg hat)
               have n3_ := Aside0.mk (Kd.V_afterv (ok := (fun k_ => some k_ ≠ (v174 : Value).ownBlock ∧ some k_ ≠ (.slice Ao27 t176.length co27 : Value).ownBlock)) (by (with_reducible repeat (first | apply Kd.V_alloc | apply Kd.V_drewN | apply Kd.V_drew)); exact HO216.out) hg hat)
               have n4_ := Aside0.mk (Kd.V_afterv (ok := (fun k_ => some k_ ≠ (v174 : Value).ownBlock ∧ some k_ ≠ (.slice Ao27 t176.length co27 : Value).ownBlock)) (by (with_reducible repeat (first | apply Kd.V_alloc | apply Kd.V_drewN | apply Kd.V_drew)); exact HO224.out) hg hat)
               have n5_ := Aside0.mk (hb)
               have n6_ := Aside0.mk (ho)
               clear HO_0
               clear HO_8
               clear HO_68
               clear HO216
               clear HO224
               clear HB
               clear HO211
               have HO_0 := n0_
               have HO_8 := n1_
               have HO_68 := n2_
               have HO216 := n3_
               have HO224 := n4_
               have HB := n5_
               have HO219 := n6_
               clear n0_ n1_ n2_ n3_ n4_ n5_ n6_
               clear ho hb hg hat
               refine hK.out _ _ trivial (fun hHeld => ?_)
               clear hK K
               refine norm_ (a' := ?_) ?_ ?_
               rotate_left
               ·show Act.put _ (some 115) _ = _
                simp only [Act.put, List.setIfInBounds_toArray, List.set_cons_zero, List.set_cons_succ, i64_w, i32_w]
                rfl
               refine one_ (i := 8) (N := some 119) #[true, true, true, true, true, true, true, true, true, true, false, false, false, false, false, false] rfl rfl (one_of HT_.out (by kernel_rfl)) (by decide) (fun K hK => ?_)
               refine Kd.R_append_rows_step (Kd.int .i64) (w0 := w) w.heap.size (by rfl) (.tmp 115) (.tmp 118) 57 3 (.int .i64 0) 8 rfl Th.underlying57 info3 rfl (by decide) (by omega) v218 y217 y220 _ _ _ (fun k_ => some k_ ≠ (v174 : Value).ownBlock ∧ some k_ ≠ (.slice Ao27 t176.length co27 : Value).ownBlock) (fun _ => False) rfl rfl ?aO ?aR (fun _ _ h => h) (fun _ h => h.elim) ?aF ?aB ?aS ?aL ?_
               (case aR => repeat (first | exact (Kd.V_reads' HO224.out).2.2 | (with_reducible refine Kd.C_alloc ?_ _) | (with_reducible refine Kd.C_drewN ?_ _) | (with_reducible refine Kd.C_drew ?_)))
               (case aB => exact (by repeat (first | (with_reducible first | exact HB.out | apply below_alloc | apply pw_below_drewN | apply below_drew1) | exact HB.out)))
               (case aF => exact (fun k_ hk => ⟨Kd.fresh' (Kd.R_lt (by (with_reducible repeat (first | apply Kd.R_alloc | apply Kd.R_drewN | apply Kd.R_drew)); exact HO_8.out)) k_ hk, Kd.fresh' (Kd.R_lt (by (with_reducible repeat (first | apply Kd.R_alloc | apply Kd.R_drewN | apply Kd.R_drew)); exact HO_68.out)) k_ hk⟩))
               (case aO => exact (by (with_reducible repeat (first | apply Kd.R_alloc | apply Kd.R_drewN | apply Kd.R_drew)); exact HO219.out))
               (case aS => exact (below_size (by repeat (first | (with_reducible first | exact HB.out | apply below_alloc | apply pw_below_drewN | apply below_drew1) | exact HB.out))))
               (case aL => have := LMc76.out; omega)
               intro v226 w86 ho hb hg hat
               rw [← Ny225.out] at ho
               have n0_ := Aside0.mk (Kd.V_afterv (ok := (fun k_ => some k_ ≠ (v174 : Value).ownBlock ∧ some k_ ≠ (.slice Ao27 t176.length co27 : Value).ownBlock)) (by (with_reducible repeat (first | apply Kd.V_alloc | apply Kd.V_drewN | apply Kd.V_drew)); exact HO_0.out) hg hat)
               have n1_ := Aside0.mk (Kd.R_after (ok := (fun k_ => some k_ ≠ (.slice Ao27 t176.length co27 : Value).ownBlock)) (by (with_reducible repeat (first | apply Kd.R_alloc | apply Kd.R_drewN | apply Kd.R_drew)); exact HO_8.out) hg hat)
               have n2_ := Aside0.mk (Kd.R_after (ok := (fun k_ => some k_ ≠ (v174 : Value).ownBlock)) (by (with_reducible repeat (first | apply Kd.R_alloc | apply Kd.R_drewN | apply Kd.R_drew)); exact HO_68.out) hg hat)
               have n3_ := Aside0.mk (Kd.V_afterv (ok := (fun k_ => some k_ ≠ (v174 : Value).ownBlock ∧ some k_ ≠ (.slice Ao27 t176.length co27 : Value).ownBlock)) (by (with_reducible repeat (first | apply Kd.V_alloc | apply Kd.V_drewN | apply Kd.V_drew)); exact HO216.out) hg hat)
               have n4_ := Aside0.mk (Kd.V_afterv (ok := (fun k_ => some k_ ≠ (v174 : Value).ownBlock ∧ some k_ ≠ (.slice Ao27 t176.length co27 : Value).ownBlock)) (by (with_reducible repeat (first | apply Kd.V_alloc | apply Kd.V_drewN | apply Kd.V_drew)); exact HO224.out) hg hat)
               have n5_ := Aside0.mk (hb)
               have n6_ := Aside0.mk (ho)
               clear HO_0
               clear HO_8
               clear HO_68
               clear HO216
               clear HO224
               clear HB
               clear HO219
               have HO_0 := n0_
               have HO_8 := n1_
               have HO_68 := n2_
               have HO216 := n3_
               have HO224 := n4_
               have HB := n5_
               have HO227 := n6_
               clear n0_ n1_ n2_ n3_ n4_ n5_ n6_
               clear ho hb hg hat
               obtain ⟨Ao87, co87, eo87⟩ := Kd.R_slice HO227.out
               (first | subst eo87 | (injection eo87 with f1_ f2_ f3_; have f4_ := f1_.symm; have f5_ := f3_.symm; clear f1_ f2_ f3_; subst f4_; subst f5_))
               refine hK.out _ _ trivial (fun hHeld => ?_)
               clear hK K
               refine norm_ (a' := ?_) ?_ ?_
               rotate_left
               ·show Act.put _ (some 119) _ = _
                simp only [Act.put, List.setIfInBounds_toArray, List.set_cons_zero, List.set_cons_succ, i64_w, i32_w]
                rfl
               refine one_ (i := 10) (N := some 121) #[true, true, true, true, true, true, true, true, true, true, true, false, false, false, false, false] rfl rfl (one_of HT_.out (by kernel_rfl)) (by decide) (fun K hK => ?_)
               refine goes_ Th.func45 (by kernel_rfl) rfl #[.slice Ao87 y225.length co87, .int .i64 ji6] (by rfl) rfl rfl (by (try simp only [List.map_toArray, List.map_cons, List.map_nil]); first | done | (simp only [hji6]; rfl) | rfl | (simp only [List.length_drop, List.length_take]; rfl)) ?_
               with_reducible refine (hash_Spread.calls _ _ y225 ji6 t228 t229 _ ?side1 ?side2 A77.out).mono ?_
               (case side1 => repeat (first | exact (Kd.R_reads' HO227.out).2.2 | (with_reducible refine Kd.C_alloc ?_ _) | (with_reducible refine Kd.C_drewN ?_ _) | (with_reducible refine Kd.C_drew ?_)))
               (case side2 => exact (Kd.R_reads' HO227.out).2.1)
               rintro e w88 ⟨v230, rfl, ho0, hb⟩
               refine ⟨_, rfl, ?_⟩
               have n0_ := Aside0.mk (Kd.V_elder' (by (with_reducible repeat (first | apply Kd.V_alloc | apply Kd.V_drewN | apply Kd.V_drew)); exact HO_0.out) (Kd.R_base ho0) hb)
               have n1_ := Aside0.mk (Kd.R_elder' (by (with_reducible repeat (first | apply Kd.R_alloc | apply Kd.R_drewN | apply Kd.R_drew)); exact HO_8.out) (Kd.R_base ho0) hb)
               have n2_ := Aside0.mk (Kd.R_elder' (by (with_reducible repeat (first | apply Kd.R_alloc | apply Kd.R_drewN | apply Kd.R_drew)); exact HO_68.out) (Kd.R_base ho0) hb)
               have n3_ := Aside0.mk (Kd.V_elder' (by (with_reducible repeat (first | apply Kd.V_alloc | apply Kd.V_drewN | apply Kd.V_drew)); exact HO216.out) (Kd.R_base ho0) hb)
               have n4_ := Aside0.mk (Kd.V_elder' (by (with_reducible repeat (first | apply Kd.V_alloc | apply Kd.V_drewN | apply Kd.V_drew)); exact HO224.out) (Kd.R_base ho0) hb)
               have n5_ := Aside0.mk (Kd.R_elder' (by (with_reducible repeat (first | apply Kd.R_alloc | apply Kd.R_drewN | apply Kd.R_drew)); exact HO227.out) (Kd.R_base ho0) hb)
               have n6_ := Aside0.mk (Kd.R_lower (Kd.R_new' (Kd.R_new' (Kd.R_new' ho0 (Kd.R_lt (by (with_reducible repeat (first | apply Kd.R_alloc | apply Kd.R_drewN | apply Kd.R_drew)); exact HO_8.out))) (Kd.R_lt (by (with_reducible repeat (first | apply Kd.R_alloc | apply Kd.R_drewN | apply Kd.R_drew)); exact HO_68.out))) (Kd.R_lt (by (with_reducible repeat (first | apply Kd.R_alloc | apply Kd.R_drewN | apply Kd.R_drew)); exact HO227.out))) (below_size (by repeat (first | (with_reducible first | exact HB.out | apply below_alloc | apply pw_below_drewN | apply below_drew1) | exact HB.out))))
               have n7_ := Aside0.mk (below_step (by repeat (first | (with_reducible first | exact HB.out | apply below_alloc | apply pw_below_drewN | apply below_drew1) | exact HB.out)) hb)
               clear HO_0
               clear HO_8
               clear HO_68
               clear HO216
               clear HO224
               clear HO227
               clear HB
               have HO_0 := n0_
               have HO_8 := n1_
               have HO_68 := n2_
               have HO216 := n3_
               have HO224 := n4_
               have HO227 := n5_
               have HO231 := n6_
               have HB := n7_
               clear n0_ n1_ n2_ n3_ n4_ n5_ n6_ n7_
               (try clear hb)
               (try clear hb2)
               (try clear hk)
               (try clear hi)
               (try clear ho0)
               refine hK.out _ _ trivial (fun hHeld => ?_)
               clear hK K
               refine norm_ (a' := ?_) ?_ ?_
               rotate_left
               ·show Act.put _ (some 121) _ = _
                simp only [Act.put, List.setIfInBounds_toArray, List.set_cons_zero, List.set_cons_succ, i64_w, i32_w]
                rfl
               refine pure_ (i := 11) (N := some 110) (v := ?_) (a' := ?_) #[true, true, true, true, true, true, true, true, true, true, true, true, false, false, false, false] rfl rfl (any_of HT_.out (by kernel_rfl)) (fun _ _ _ h => h) (Or.inl ⟨by rfl, ?_⟩) ?_ ?_
               rotate_left
               ·intro w'
                go_simp
                with_reducible rfl
               rotate_left
               ·simp only [Act.put, List.setIfInBounds_toArray, List.set_cons_zero, List.set_cons_succ, i64_w, i32_w]
                rfl
               refine pure_ (i := 12) (N := some 122) (v := ?_) (a' := ?_) #[true, true, true, true, true, true, true, true, true, true, true, true, true, false, false, false] rfl rfl (any_of HT_.out (by kernel_rfl)) (fun _ _ _ h => h) (Or.inl ⟨by rfl, ?_⟩) ?_ ?_
               rotate_left
               ·intro w'
                go_simp
                with_reducible rfl
               rotate_left
               ·simp only [Act.put, List.setIfInBounds_toArray, List.set_cons_zero, List.set_cons_succ, i64_w, i32_w]
                rfl
               refine pure_ (i := 13) (N := some 123) (v := ?_) (a' := ?_) #[true, true, true, true, true, true, true, true, true, true, true, true, true, true, false, false] rfl rfl (any_of HT_.out (by kernel_rfl)) (fun _ _ _ h => h) (Or.inl ⟨by rfl, ?_⟩) ?_ ?_
               rotate_left
               ·intro w'
                go_simp
                with_reducible rfl
               rotate_left
               ·simp only [Act.put, List.setIfInBounds_toArray, List.set_cons_zero, List.set_cons_succ, i64_w, i32_w]
                rfl
               refine pure_ (i := 14) (N := some 15) (v := ?_) (a' := ?_) #[true, true, true, true, true, true, true, true, true, true, true, true, true, true, true, false] rfl rfl (any_of HT_.out (by kernel_rfl)) (fun _ _ _ h => h) (Or.inl ⟨by rfl, ?_⟩) ?_ ?_
               rotate_left
               ·intro w'
                go_simp
                with_reducible rfl
               rotate_left
               ·simp only [Act.put, List.setIfInBounds_toArray, List.set_cons_zero, List.set_cons_succ, i64_w, i32_w]
                rfl
               refine pure_ (i := 15) (N := some 16) (v := ?_) (a' := ?_) #[true, true, true, true, true, true, true, true, true, true, true, true, true, true, true, true] rfl rfl (any_of HT_.out (by kernel_rfl)) (fun _ _ _ h => h) (Or.inl ⟨by rfl, ?_⟩) ?_ ?_
               rotate_left
               ·intro w'
                go_simp
                with_reducible rfl
               rotate_left
               ·simp only [Act.put, List.setIfInBounds_toArray, List.set_cons_zero, List.set_cons_succ, i64_w, i32_w]
                rfl
               refine done_ (done_of HT_.out (by kernel_rfl)) ?_
               obtain ⟨Ao89, co89, eo89⟩ := Kd.R_slice HO_8.out
               subst eo89
               obtain ⟨Ao90, co90, eo90⟩ := Kd.R_slice HO231.out
               subst eo90
               try go_wp2_with (first | (go_at_call 53; (with_reducible refine (footwayref06_Same.calls k2 _ _ t172 _ _ t228 t232 _ ?side1 ?side2 ?side3 ?side4 A79.out).mono ?_); (case side1 => repeat (first | exact (Kd.R_reads' HO_8.out).2.2 | (with_reducible refine Kd.C_alloc ?_ _) | (with_reducible refine Kd.C_drewN ?_ _) | (with_reducible refine Kd.C_drew ?_))); (case side2 => exact (Kd.R_reads' HO_8.out).2.1); (case side3 => repeat (first | exact (Kd.R_reads' HO231.out).2.2 | (with_reducible refine Kd.C_alloc ?_ _) | (with_reducible refine Kd.C_drewN ?_ _) | (with_reducible refine Kd.C_drew ?_))); (case side4 => exact (Kd.R_reads' HO231.out).2.1); rintro e w' ⟨rfl, ⟨nd, rfl⟩⟩))
               go_ret
               exact ⟨by first | rfl | (simp [errW_none, errW_some] <;> rfl) | (simp only [← hji4, ← hji6]; first | rfl | (simp [errW_none, errW_some] <;> rfl)) | (simp [*, errW_none, errW_some] <;> rfl), by repeat (first | (with_reducible first | exact HB.out | apply below_alloc | apply pw_below_drewN | apply below_drew1) | exact HB.out)⟩
              ·rw [if_neg c78] at H
               have c78b0 : (t229 == 0) = false := beq_eq_false_iff_ne.mpr c78
               have c78b1 : (t229 != 0) = true := bne_iff_ne.mpr c78
               obtain rfl := Option.some.inj H
               try go_wp2
               have n0_ := Aside0.mk (Kd.V_drew HO_0.out)
               have n1_ := Aside0.mk (Kd.R_drew HO_8.out)
               have n2_ := Aside0.mk (Kd.R_drew HO_68.out)
               have n3_ := Aside0.mk (below_drew1 HB.out)
               clear HO_0
               clear HO_8
               clear HO_68
               clear HB
               have HO_0 := n0_
               have HO_8 := n1_
               have HO_68 := n2_
               have HB := n3_
               clear n0_ n1_ n2_ n3_
               have q92 : (0 : Int) ≤ ((t169.length : Int) : Int) := of_decide_eq_true (by first | (with_reducible assumption) | assumption)
               obtain ⟨i092, hi092, _, hsz92, _⟩ := info_parts info3
               have hroom92 : t169.length ≤ co13 := (Kd.V_reads' HO_0.out).2.1
               have hC92 : Kd.F (Kd.int .i64) _ _ Ao13 t169.length t169 := (Kd.V_at (base := w.heap.size) HO_0.out).2.2
               have hcut92 := cut_from (P := Th.prog) 57 3 .i64 Th.underlying57 hi092 1 hsz92 Ao13 t169.length co13 0 (by omega) q92
               have hr92 := Kd.F_cut (m := (0 : Int).toNat) (c := co13) hC92 (by omega) hroom92
               obtain ⟨A92, hA92⟩ : ∃ A1, A1 = (if co13 = (0 : Int).toNat then Ao13 else (Ao13 : Option Addr).map (·.add ((0 : Int).toNat * 1))) := ⟨_, rfl⟩
               obtain ⟨c92, hc92⟩ : ∃ c1, c1 = co13 - (0 : Int).toNat := ⟨_, rfl⟩
               have hy92 : y212.length = t169.length - (0 : Int).toNat := (by rw [Ny212.out, List.length_drop] <;> omega)
               rw [show (t169).drop (0 : Int).toNat = y212 from Ny212.out.symm] at hr92
               replace hr92 : Kd.F (Kd.int .i64) _ _ A92 y212.length y212 := (by rw [hA92]; exact hr92)
               rw [← hy92, ← hA92, ← hc92] at hcut92
               have HO216 := Aside0.mk (show Kd.V (Kd.int .i64) 3 _ w.heap.size _ (.slice A92 y212.length c92) y212 from Kd.V_mk (by rw [hy92, hc92]; exact Nat.sub_le_sub_right hroom92 _) hr92)
               have HC216 := Aside0.mk (show y212.length ≤ c92 from by rw [hy92, hc92]; exact Nat.sub_le_sub_right hroom92 _)
               clear hr92 hC92 hroom92 hi092 hsz92 hc92
               have KY92 := Aside0.mk hy92
               have KA92 := Aside0.mk hA92
               clear hy92 hA92
               replace q92 := eq_true q92
               have q93 : (0 : Int) ≤ ((t169.length : Int) : Int) := of_decide_eq_true (by first | (with_reducible assumption) | assumption)
               obtain ⟨i093, hi093, _, hsz93, _⟩ := info_parts info3
               have hroom93 : t169.length ≤ co13 := (Kd.V_reads' HO_0.out).2.1
               have hC93 : Kd.F (Kd.int .i64) _ _ Ao13 t169.length t169 := (Kd.V_at (base := w.heap.size) HO_0.out).2.2
               have hcut93 := cut_to (P := Th.prog) 57 3 .i64 Th.underlying57 hi093 Ao13 t169.length co13 0 (by omega) q93 hroom93
               have hr93 := Kd.F_take (m := 0) hC93 (by omega)
               have hy93 : y220.length = (0 : Int).toNat := (by rw [Ny220.out, List.length_take]; omega)
               rw [← Ny220.out] at hr93
               rw [← hy93] at hcut93
               have HO224 := Aside0.mk (show Kd.V (Kd.int .i64) 3 _ w.heap.size _ (.slice Ao13 y220.length co13) y220 from Kd.V_mk (by omega) hr93)
               have HC224 := Aside0.mk (show y220.length ≤ co13 from by omega)
               clear hr93 hC93 hroom93 hi093 hsz93
               have KY93 := Aside0.mk hy93
               clear hy93
               replace q93 := eq_true q93
               refine start_ (n := 16) (S := fun w' => True) (ds := []) #[false, false, false, false, false, false, false, false, false, false, false, false, false, false, false, false] (by kernel_rfl) rfl rfl trivial (fun hHeld => ?_); refine with_tabW footwaylaw07_HashHalves.tab22 footwaylaw07_HashHalves.bits22 (fun HT_ HW_ => ?_)
               generalize wr.drew = w91 at HO_0 HO_8 HO_68 HB HO216 HO224 hHeld ⊢
               refine pure_ (i := 1) (N := some 112) (v := ?_) (a' := ?_) #[false, true, false, false, false, false, false, false, false, false, false, false, false, false, false, false] rfl rfl (any_of HT_.out (by kernel_rfl)) (fun _ _ _ h => h) (Or.inl ⟨by rfl, ?_⟩) ?_ ?_
               rotate_left
               ·intro w'
                go_simp
                with_reducible rfl
               rotate_left
               ·simp only [Act.put, List.setIfInBounds_toArray, List.set_cons_zero, List.set_cons_succ, i64_w, i32_w]
                rfl
               refine pure_ (i := 2) (N := some 113) (v := ?_) (a' := ?_) #[false, true, true, false, false, false, false, false, false, false, false, false, false, false, false, false] rfl rfl (any_of HT_.out (by kernel_rfl)) (fun _ _ _ h => h) (Or.inl ⟨by rfl, ?_⟩) ?_ ?_
               rotate_left
               ·intro w'
                go_simp
                with_reducible rfl
               rotate_left
               ·simp only [Act.put, List.setIfInBounds_toArray, List.set_cons_zero, List.set_cons_succ, i64_w, i32_w]
                rfl
               refine pure_ (i := 3) (N := some 114) (v := ?_) (a' := ?_) #[false, true, true, true, false, false, false, false, false, false, false, false, false, false, false, false] rfl rfl (any_of HT_.out (by kernel_rfl)) (fun _ _ _ h => h) (Or.inl ⟨by rfl, ?_⟩) ?_ ?_
               rotate_left
               ·intro w'
                go_simp
                with_reducible rfl
               rotate_left
               ·simp only [Act.put, List.setIfInBounds_toArray, List.set_cons_zero, List.set_cons_succ, i64_w, i32_w]
                rfl
               refine pure_ (i := 5) (N := some 116) (v := ?_) (a' := ?_) #[false, true, true, true, false, true, false, false, false, false, false, false, false, false, false, false] rfl rfl (any_of HT_.out (by kernel_rfl)) (fun _ _ _ h => h) (Or.inl ⟨by rfl, ?_⟩) ?_ ?_
               rotate_left
               ·intro w'
                go_simp
                with_reducible rfl
               rotate_left
               ·simp only [Act.put, List.setIfInBounds_toArray, List.set_cons_zero, List.set_cons_succ, i64_w, i32_w]
                rfl
               refine pure_ (i := 6) (N := some 117) (v := ?_) (a' := ?_) #[false, true, true, true, false, true, true, false, false, false, false, false, false, false, false, false] rfl rfl (any_of HT_.out (by kernel_rfl)) (fun _ _ _ h => h) (Or.inl ⟨by rfl, ?_⟩) ?_ ?_
               rotate_left
               ·intro w'
                go_simp
                with_reducible rfl
               rotate_left
               ·simp only [Act.put, List.setIfInBounds_toArray, List.set_cons_zero, List.set_cons_succ, i64_w, i32_w]
                rfl
               refine pure_ (i := 7) (N := some 118) (v := ?_) (a' := ?_) #[false, true, true, true, false, true, true, true, false, false, false, false, false, false, false, false] rfl rfl (any_of HT_.out (by kernel_rfl)) (fun _ _ _ h => h) (Or.inl ⟨by rfl, ?_⟩) ?_ ?_
               rotate_left
               ·intro w'
                go_simp
                with_reducible rfl
               rotate_left
               ·simp only [Act.put, List.setIfInBounds_toArray, List.set_cons_zero, List.set_cons_succ, i64_w, i32_w]
                rfl
               refine pure_ (i := 9) (N := some 120) (v := ?_) (a' := ?_) #[false, true, true, true, false, true, true, true, false, true, false, false, false, false, false, false] rfl rfl (any_of HT_.out (by kernel_rfl)) (fun _ _ _ h => h) (Or.inl ⟨by rfl, ?_⟩) ?_ ?_
               rotate_left
               ·intro w'
                go_simp
                with_reducible rfl
               rotate_left
               ·simp only [Act.put, List.setIfInBounds_toArray, List.set_cons_zero, List.set_cons_succ, i64_w, i32_w]
                rfl
               refine one_ (i := 0) (N := some 111) #[true, true, true, true, false, true, true, true, false, true, false, false, false, false, false, false] rfl rfl (one_of HT_.out (by kernel_rfl)) (by decide) (fun K hK => ?_)
               refine Kd.R_lit_step (Kd.int .i64) _ 3 ?hg (N := 111) ?hd (xs := ([] : List Int)) (inner := []) (ok := fun _ => True) (okp := fun _ => True) ?hr ?hp (fun _ hk => hk) trivial (Below.refl _ _) (Nat.le_refl _) (by simp) ?_; (case hd => rfl); (case hg => rfl); (case hr => first | (go_simp; done) | (go_simp; rfl)); (case hp => exact (Reps.none _ _))
               intro v210 w94 ho95 hb hg_ hnew_
               clear hg_ hnew_
               (first | rw [← Ny209.out] at ho95 | (simp only [Int.reduceToNat] at ho95; rw [← Ny209.out] at ho95))
               have n0_ := Aside0.mk (Kd.V_elder' (by (with_reducible repeat (first | apply Kd.V_alloc | apply Kd.V_drewN | apply Kd.V_drew)); exact HO_0.out) (Kd.R_base ho95) hb)
               have n1_ := Aside0.mk (Kd.R_elder' (by (with_reducible repeat (first | apply Kd.R_alloc | apply Kd.R_drewN | apply Kd.R_drew)); exact HO_8.out) (Kd.R_base ho95) hb)
               have n2_ := Aside0.mk (Kd.R_elder' (by (with_reducible repeat (first | apply Kd.R_alloc | apply Kd.R_drewN | apply Kd.R_drew)); exact HO_68.out) (Kd.R_base ho95) hb)
               have n3_ := Aside0.mk (Kd.V_elder' (by (with_reducible repeat (first | apply Kd.V_alloc | apply Kd.V_drewN | apply Kd.V_drew)); exact HO216.out) (Kd.R_base ho95) hb)
               have n4_ := Aside0.mk (Kd.V_elder' (by (with_reducible repeat (first | apply Kd.V_alloc | apply Kd.V_drewN | apply Kd.V_drew)); exact HO224.out) (Kd.R_base ho95) hb)
               have n5_ := Aside0.mk (Kd.R_lower (Kd.R_new' (Kd.R_new' ho95 (Kd.R_lt (by (with_reducible repeat (first | apply Kd.R_alloc | apply Kd.R_drewN | apply Kd.R_drew)); exact HO_8.out))) (Kd.R_lt (by (with_reducible repeat (first | apply Kd.R_alloc | apply Kd.R_drewN | apply Kd.R_drew)); exact HO_68.out))) (below_size (by repeat (first | (with_reducible first | exact HB.out | apply below_alloc | apply pw_below_drewN | apply below_drew1) | exact HB.out))))
               have n6_ := Aside0.mk (below_step (by repeat (first | (with_reducible first | exact HB.out | apply below_alloc | apply pw_below_drewN | apply below_drew1) | exact HB.out)) hb)
               clear HO_0
               clear HO_8
               clear HO_68
               clear HO216
               clear HO224
               clear HB
               have HO_0 := n0_
               have HO_8 := n1_
               have HO_68 := n2_
               have HO216 := n3_
               have HO224 := n4_
               have HO211 := n5_
               have HB := n6_
               clear n0_ n1_ n2_ n3_ n4_ n5_ n6_
               clear hb ho95
               refine hK.out _ _ trivial (fun hHeld => ?_)
               clear hK K
               refine norm_ (a' := ?_) ?_ ?_
               rotate_left
               ·show Act.put _ (some 111) _ = _
                simp only [Act.put, List.setIfInBounds_toArray, List.set_cons_zero, List.set_cons_succ, i64_w, i32_w]
                rfl
               refine one_ (i := 4) (N := some 115) #[true, true, true, true, true, true, true, true, false, true, false, false, false, false, false, false] rfl rfl (one_of HT_.out (by kernel_rfl)) (by decide) (fun K hK => ?_)
               refine Kd.R_append_rows_step (Kd.int .i64) (w0 := w) w.heap.size (by rfl) (.tmp 111) (.tmp 114) 57 3 (.int .i64 0) 8 rfl Th.underlying57 info3 rfl (by decide) (by omega) v210 y209 y212 _ _ _ (fun k_ => some k_ ≠ (v174 : Value).ownBlock ∧ some k_ ≠ (.slice Ao27 t176.length co27 : Value).ownBlock) (fun _ => False) rfl rfl ?aO ?aR (fun _ _ h => h) (fun _ h => h.elim) ?aF ?aB ?aS ?aL ?_
               (case aR => repeat (first | exact (Kd.V_reads' HO216.out).2.2 | (with_reducible refine Kd.C_alloc ?_ _) | (with_reducible refine Kd.C_drewN ?_ _) | (with_reducible refine Kd.C_drew ?_)))
               (case aB => exact (by repeat (first | (with_reducible first | exact HB.out | apply below_alloc | apply pw_below_drewN | apply below_drew1) | exact HB.out)))
               (case aF => exact (fun k_ hk => ⟨Kd.fresh' (Kd.R_lt (by (with_reducible repeat (first | apply Kd.R_alloc | apply Kd.R_drewN | apply Kd.R_drew)); exact HO_8.out)) k_ hk, Kd.fresh' (Kd.R_lt (by (with_reducible repeat (first | apply Kd.R_alloc | apply Kd.R_drewN | apply Kd.R_drew)); exact HO_68.out)) k_ hk⟩))
               (case aO => exact (by (with_reducible repeat (first | apply Kd.R_alloc | apply Kd.R_drewN | apply Kd.R_drew)); exact Kd.R_mono HO211.out (fun _ hk => ⟨hk.1.2, hk.2⟩)))
               (case aS => exact (below_size (by repeat (first | (with_reducible first | exact HB.out | apply below_alloc | apply pw_below_drewN | apply below_drew1) | exact HB.out))))
               (case aL => have := LMc74.out; omega)
               intro v218 w96 ho hb hg hat
               rw [← Ny217.out] at ho
               have n0_ := Aside0.mk (Kd.V_afterv (ok := (fun k_ => some k_ ≠ (v174 : Value).ownBlock ∧ some k_ ≠ (.slice Ao27 t176.length co27 : Value).ownBlock)) (by (with_reducible repeat (first | apply Kd.V_alloc | apply Kd.V_drewN | apply Kd.V_drew)); exact HO_0.out) hg hat)
               have n1_ := Aside0.mk (Kd.R_after (ok := (fun k_ => some k_ ≠ (.slice Ao27 t176.length co27 : Value).ownBlock)) (by (with_reducible repeat (first | apply Kd.R_alloc | apply Kd.R_drewN | apply Kd.R_drew)); exact HO_8.out) hg hat)
               have n2_ := Aside0.mk (Kd.R_after (ok := (fun k_ => some k_ ≠ (v174 : Value).ownBlock)) (by (with_reducible repeat (first | apply Kd.R_alloc | apply Kd.R_drewN | apply Kd.R_drew)); exact HO_68.out) hg hat)
               have n3_ := Aside0.mk (Kd.V_afterv (ok := (fun k_ => some k_ ≠ (v174 : Value).ownBlock ∧ some k_ ≠ (.slice Ao27 t176.length co27 : Value).ownBlock)) (by (with_reducible repeat (first | apply Kd.V_alloc | apply Kd.V_drewN | apply Kd.V_drew)); exact HO216.out) hg hat)
               have n4_ := Aside0.mk (Kd.V_afterv (ok := (fun k_ => some k_ ≠ (v174 : Value).ownBlock ∧ some k_ ≠ (.slice Ao27 t176.length co27 : Value).ownBlock)) (by (with_reducible repeat (first | apply Kd.V_alloc | apply Kd.V_drewN | apply Kd.V_drew)); exact HO224.out) hg hat)
               have n5_ := Aside0.mk (hb)
               have n6_ := Aside0.mk (ho)
               clear HO_0
               clear HO_8
               clear HO_68
               clear HO216
               clear HO224
               clear HB
               clear HO211
               have HO_0 := n0_
               have HO_8 := n1_
               have HO_68 := n2_
               have HO216 := n3_
               have HO224 := n4_
               have HB := n5_
               have HO219 := n6_
               clear n0_ n1_ n2_ n3_ n4_ n5_ n6_
               clear ho hb hg hat
               refine hK.out _ _ trivial (fun hHeld => ?_)
               clear hK K
               refine norm_ (a' := ?_) ?_ ?_
               rotate_left
               ·show Act.put _ (some 115) _ = _
                simp only [Act.put, List.setIfInBounds_toArray, List.set_cons_zero, List.set_cons_succ, i64_w, i32_w]
                rfl
               refine one_ (i := 8) (N := some 119) #[true, true, true, true, true, true, true, true, true, true, false, false, false, false, false, false] rfl rfl (one_of HT_.out (by kernel_rfl)) (by decide) (fun K hK => ?_)
               refine Kd.R_append_rows_step (Kd.int .i64) (w0 := w) w.heap.size (by rfl) (.tmp 115) (.tmp 118) 57 3 (.int .i64 0) 8 rfl Th.underlying57 info3 rfl (by decide) (by omega) v218 y217 y220 _ _ _ (fun k_ => some k_ ≠ (v174 : Value).ownBlock ∧ some k_ ≠ (.slice Ao27 t176.length co27 : Value).ownBlock) (fun _ => False) rfl rfl ?aO ?aR (fun _ _ h => h) (fun _ h => h.elim) ?aF ?aB ?aS ?aL ?_
               (case aR => repeat (first | exact (Kd.V_reads' HO224.out).2.2 | (with_reducible refine Kd.C_alloc ?_ _) | (with_reducible refine Kd.C_drewN ?_ _) | (with_reducible refine Kd.C_drew ?_)))
               (case aB => exact (by repeat (first | (with_reducible first | exact HB.out | apply below_alloc | apply pw_below_drewN | apply below_drew1) | exact HB.out)))
               (case aF => exact (fun k_ hk => ⟨Kd.fresh' (Kd.R_lt (by (with_reducible repeat (first | apply Kd.R_alloc | apply Kd.R_drewN | apply Kd.R_drew)); exact HO_8.out)) k_ hk, Kd.fresh' (Kd.R_lt (by (with_reducible repeat (first | apply Kd.R_alloc | apply Kd.R_drewN | apply Kd.R_drew)); exact HO_68.out)) k_ hk⟩))
               (case aO => exact (by (with_reducible repeat (first | apply Kd.R_alloc | apply Kd.R_drewN | apply Kd.R_drew)); exact HO219.out))
               (case aS => exact (below_size (by repeat (first | (with_reducible first | exact HB.out | apply below_alloc | apply pw_below_drewN | apply below_drew1) | exact HB.out))))
               (case aL => have := LMc76.out; omega)
               intro v226 w97 ho hb hg hat
               rw [← Ny225.out] at ho
               have n0_ := Aside0.mk (Kd.V_afterv (ok := (fun k_ => some k_ ≠ (v174 : Value).ownBlock ∧ some k_ ≠ (.slice Ao27 t176.length co27 : Value).ownBlock)) (by (with_reducible repeat (first | apply Kd.V_alloc | apply Kd.V_drewN | apply Kd.V_drew)); exact HO_0.out) hg hat)
               have n1_ := Aside0.mk (Kd.R_after (ok := (fun k_ => some k_ ≠ (.slice Ao27 t176.length co27 : Value).ownBlock)) (by (with_reducible repeat (first | apply Kd.R_alloc | apply Kd.R_drewN | apply Kd.R_drew)); exact HO_8.out) hg hat)
               have n2_ := Aside0.mk (Kd.R_after (ok := (fun k_ => some k_ ≠ (v174 : Value).ownBlock)) (by (with_reducible repeat (first | apply Kd.R_alloc | apply Kd.R_drewN | apply Kd.R_drew)); exact HO_68.out) hg hat)
               have n3_ := Aside0.mk (Kd.V_afterv (ok := (fun k_ => some k_ ≠ (v174 : Value).ownBlock ∧ some k_ ≠ (.slice Ao27 t176.length co27 : Value).ownBlock)) (by (with_reducible repeat (first | apply Kd.V_alloc | apply Kd.V_drewN | apply Kd.V_drew)); exact HO216.out) hg hat)
               have n4_ := Aside0.mk (Kd.V_afterv (ok := (fun k_ => some k_ ≠ (v174 : Value).ownBlock ∧ some k_ ≠ (.slice Ao27 t176.length co27 : Value).ownBlock)) (by (with_reducible repeat (first | apply Kd.V_alloc | apply Kd.V_drewN | apply Kd.V_drew)); exact HO224.out) hg hat)
               have n5_ := Aside0.mk (hb)
               have n6_ := Aside0.mk (ho)
               clear HO_0
               clear HO_8
               clear HO_68
               clear HO216
               clear HO224
               clear HB
               clear HO219
               have HO_0 := n0_
               have HO_8 := n1_
               have HO_68 := n2_
               have HO216 := n3_
               have HO224 := n4_
               have HB := n5_
               have HO227 := n6_
               clear n0_ n1_ n2_ n3_ n4_ n5_ n6_
               clear ho hb hg hat
               obtain ⟨Ao98, co98, eo98⟩ := Kd.R_slice HO227.out
               (first | subst eo98 | (injection eo98 with f1_ f2_ f3_; have f4_ := f1_.symm; have f5_ := f3_.symm; clear f1_ f2_ f3_; subst f4_; subst f5_))
               refine hK.out _ _ trivial (fun hHeld => ?_)
               clear hK K
               refine norm_ (a' := ?_) ?_ ?_
               rotate_left
               ·show Act.put _ (some 119) _ = _
                simp only [Act.put, List.setIfInBounds_toArray, List.set_cons_zero, List.set_cons_succ, i64_w, i32_w]
                rfl
               refine one_ (i := 10) (N := some 121) #[true, true, true, true, true, true, true, true, true, true, true, false, false, false, false, false] rfl rfl (one_of HT_.out (by kernel_rfl)) (by decide) (fun K hK => ?_)
               refine goes_ Th.func45 (by kernel_rfl) rfl #[.slice Ao98 y225.length co98, .int .i64 ji6] (by rfl) rfl rfl (by (try simp only [List.map_toArray, List.map_cons, List.map_nil]); first | done | (simp only [hji6]; rfl) | rfl | (simp only [List.length_drop, List.length_take]; rfl)) ?_
               with_reducible refine (hash_Spread.calls _ _ y225 ji6 t228 t229 _ ?side1 ?side2 A77.out).mono ?_
               (case side1 => repeat (first | exact (Kd.R_reads' HO227.out).2.2 | (with_reducible refine Kd.C_alloc ?_ _) | (with_reducible refine Kd.C_drewN ?_ _) | (with_reducible refine Kd.C_drew ?_)))
               (case side2 => exact (Kd.R_reads' HO227.out).2.1)
               rintro e w99 ⟨v230, rfl, ho0, hb⟩
               refine ⟨_, rfl, ?_⟩
               have n0_ := Aside0.mk (Kd.V_elder' (by (with_reducible repeat (first | apply Kd.V_alloc | apply Kd.V_drewN | apply Kd.V_drew)); exact HO_0.out) (Kd.R_base ho0) hb)
               have n1_ := Aside0.mk (Kd.R_elder' (by (with_reducible repeat (first | apply Kd.R_alloc | apply Kd.R_drewN | apply Kd.R_drew)); exact HO_8.out) (Kd.R_base ho0) hb)
               have n2_ := Aside0.mk (Kd.R_elder' (by (with_reducible repeat (first | apply Kd.R_alloc | apply Kd.R_drewN | apply Kd.R_drew)); exact HO_68.out) (Kd.R_base ho0) hb)
               have n3_ := Aside0.mk (Kd.V_elder' (by (with_reducible repeat (first | apply Kd.V_alloc | apply Kd.V_drewN | apply Kd.V_drew)); exact HO216.out) (Kd.R_base ho0) hb)
               have n4_ := Aside0.mk (Kd.V_elder' (by (with_reducible repeat (first | apply Kd.V_alloc | apply Kd.V_drewN | apply Kd.V_drew)); exact HO224.out) (Kd.R_base ho0) hb)
               have n5_ := Aside0.mk (Kd.R_elder' (by (with_reducible repeat (first | apply Kd.R_alloc | apply Kd.R_drewN | apply Kd.R_drew)); exact HO227.out) (Kd.R_base ho0) hb)
               have n6_ := Aside0.mk (Kd.R_lower (Kd.R_new' (Kd.R_new' (Kd.R_new' ho0 (Kd.R_lt (by (with_reducible repeat (first | apply Kd.R_alloc | apply Kd.R_drewN | apply Kd.R_drew)); exact HO_8.out))) (Kd.R_lt (by (with_reducible repeat (first | apply Kd.R_alloc | apply Kd.R_drewN | apply Kd.R_drew)); exact HO_68.out))) (Kd.R_lt (by (with_reducible repeat (first | apply Kd.R_alloc | apply Kd.R_drewN | apply Kd.R_drew)); exact HO227.out))) (below_size (by repeat (first | (with_reducible first | exact HB.out | apply below_alloc | apply pw_below_drewN | apply below_drew1) | exact HB.out))))
               have n7_ := Aside0.mk (below_step (by repeat (first | (with_reducible first | exact HB.out | apply below_alloc | apply pw_below_drewN | apply below_drew1) | exact HB.out)) hb)
               clear HO_0
               clear HO_8
               clear HO_68
               clear HO216
               clear HO224
               clear HO227
               clear HB
               have HO_0 := n0_
               have HO_8 := n1_
               have HO_68 := n2_
               have HO216 := n3_
               have HO224 := n4_
               have HO227 := n5_
               have HO231 := n6_
               have HB := n7_
               clear n0_ n1_ n2_ n3_ n4_ n5_ n6_ n7_
               (try clear hb)
               (try clear hb2)
               (try clear hk)
               (try clear hi)
               (try clear ho0)
               refine hK.out _ _ trivial (fun hHeld => ?_)
               clear hK K
               refine norm_ (a' := ?_) ?_ ?_
               rotate_left
               ·show Act.put _ (some 121) _ = _
                simp only [Act.put, List.setIfInBounds_toArray, List.set_cons_zero, List.set_cons_succ, i64_w, i32_w]
                rfl
               refine pure_ (i := 11) (N := some 110) (v := ?_) (a' := ?_) #[true, true, true, true, true, true, true, true, true, true, true, true, false, false, false, false] rfl rfl (any_of HT_.out (by kernel_rfl)) (fun _ _ _ h => h) (Or.inl ⟨by rfl, ?_⟩) ?_ ?_
               rotate_left
               ·intro w'
                go_simp
                with_reducible rfl
               rotate_left
               ·simp only [Act.put, List.setIfInBounds_toArray, List.set_cons_zero, List.set_cons_succ, i64_w, i32_w]
                rfl
               refine pure_ (i := 12) (N := some 122) (v := ?_) (a' := ?_) #[true, true, true, true, true, true, true, true, true, true, true, true, true, false, false, false] rfl rfl (any_of HT_.out (by kernel_rfl)) (fun _ _ _ h => h) (Or.inl ⟨by rfl, ?_⟩) ?_ ?_
               rotate_left
               ·intro w'
                go_simp
                with_reducible rfl
               rotate_left
               ·simp only [Act.put, List.setIfInBounds_toArray, List.set_cons_zero, List.set_cons_succ, i64_w, i32_w]
                rfl
               refine pure_ (i := 13) (N := some 123) (v := ?_) (a' := ?_) #[true, true, true, true, true, true, true, true, true, true, true, true, true, true, false, false] rfl rfl (any_of HT_.out (by kernel_rfl)) (fun _ _ _ h => h) (Or.inl ⟨by rfl, ?_⟩) ?_ ?_
               rotate_left
               ·intro w'
                go_simp
                with_reducible rfl
               rotate_left
               ·simp only [Act.put, List.setIfInBounds_toArray, List.set_cons_zero, List.set_cons_succ, i64_w, i32_w]
                rfl
               refine pure_ (i := 14) (N := some 15) (v := ?_) (a' := ?_) #[true, true, true, true, true, true, true, true, true, true, true, true, true, true, true, false] rfl rfl (any_of HT_.out (by kernel_rfl)) (fun _ _ _ h => h) (Or.inl ⟨by rfl, ?_⟩) ?_ ?_
               rotate_left
               ·intro w'
                go_simp
                with_reducible rfl
               rotate_left
               ·simp only [Act.put, List.setIfInBounds_toArray, List.set_cons_zero, List.set_cons_succ, i64_w, i32_w]
                rfl
               refine pure_ (i := 15) (N := some 16) (v := ?_) (a' := ?_) #[true, true, true, true, true, true, true, true, true, true, true, true, true, true, true, true] rfl rfl (any_of HT_.out (by kernel_rfl)) (fun _ _ _ h => h) (Or.inl ⟨by rfl, ?_⟩) ?_ ?_
               rotate_left
               ·intro w'
                go_simp
                with_reducible rfl
               rotate_left
               ·simp only [Act.put, List.setIfInBounds_toArray, List.set_cons_zero, List.set_cons_succ, i64_w, i32_w]
                rfl
               refine done_ (done_of HT_.out (by kernel_rfl)) ?_
               try go_wp2
               go_ret
               exact ⟨by first | rfl | (simp [errW_none, errW_some] <;> rfl) | (simp only [← hji4, ← hji6]; first | rfl | (simp [errW_none, errW_some] <;> rfl)) | (simp [*, errW_none, errW_some] <;> rfl), by repeat (first | (with_reducible first | exact HB.out | apply below_alloc | apply pw_below_drewN | apply below_drew1) | exact HB.out)⟩
             ·rw [if_neg c76] at H
              exact absurd H (by simp)
            ·rw [if_neg c74] at H
             exact absurd H (by simp)
           ·rw [if_neg c73] at H
            exact absurd H (by simp)
         ·rw [if_neg c40] at H
          have c40b0 : (x12_2 == (t169.length : Int)) = false := beq_eq_false_iff_ne.mpr c40
          have c40b1 : (x12_2 != (t169.length : Int)) = true := bne_iff_ne.mpr c40
          obtain rfl := Option.some.inj H
          go_wp2
          go_ret
          exact ⟨by first | rfl | (simp [errW_none, errW_some] <;> rfl) | (simp only [← hji4, ← hji6]; first | rfl | (simp [errW_none, errW_some] <;> rfl)) | (simp [*, errW_none, errW_some] <;> rfl), by repeat (first | (with_reducible first | exact HB.out | apply below_alloc | apply pw_below_drewN | apply below_drew1) | exact HB.out)⟩
  ·rw [if_neg c10] at H
   have c10b0 : (t173 == 0) = false := beq_eq_false_iff_ne.mpr c10
   have c10b1 : (t173 != 0) = true := bne_iff_ne.mpr c10
   replace H := Option.bind_eq_some_iff.mp H
   obtain ⟨t180, A1000, H⟩ := H
   replace H : (if t180 = true then (if t173 = 1 then (some (t177 == t173)) else (some false)) else (some false)) = some r := H
   have A100 := Aside0.mk A1000
   clear A1000
   by_cases c101 : t180 = true
   ·subst c101
    have H1 : (if t173 = 1 then (some (t177 == t173)) else (some false)) = some r := by rw [if_pos rfl] at H; exact H
    clear H
    have H := H1
    clear H1
    by_cases c102 : t173 = 1
    ·rw [if_pos c102] at H
     have c102b0 : (t173 == 1) = true := beq_iff_eq.mpr c102
     have c102b1 : (t173 != 1) = false := bne_eq_false_iff_eq.mpr c102
     clear c102
     obtain rfl := Option.some.inj H
     go_enter Th.func12, Try.ntmps12
     go_wp2_with (first | ((with_reducible refine gate_callee (f := 42) rfl ?_); refine goesL_ (some 23) rfl rfl Th.func42 (by kernel_rfl) rfl #[.slice A0 l0.length c0] rfl (by (try simp only [List.map_toArray, List.map_cons, List.map_nil]); first | done | rfl | (simp only [List.length_drop, List.length_take]; rfl)) ?_; (with_reducible refine (footwaylaw07_few.calls (fun k_ => k_ < w.heap.size) _ _ l0 t169 _ ?side1 A7.out).mono ?_); (case side1 => exact Kd.V_mk HC0.out (Kd.F_below (Kd.C_F (Kd.heap_int .i64) HR0.out) (by repeat (first | (with_reducible first | exact HB.out | apply below_alloc | apply pw_below_drewN | apply below_drew1) | exact HB.out)))); rintro e w103 ⟨v170, rfl, ho0, hb⟩; refine ⟨_, rfl, ?_⟩; have n0_ := Aside0.mk (Kd.V_lower (Kd.V_mono (ok' := fun k_ => True) ho0 (fun k_ hk_ => trivial)) (below_size (by repeat (first | (with_reducible first | exact HB.out | apply below_alloc | apply pw_below_drewN | apply below_drew1) | exact HB.out)))); have n1_ := Aside0.mk (below_step (by repeat (first | (with_reducible first | exact HB.out | apply below_alloc | apply pw_below_drewN | apply below_drew1) | exact HB.out)) hb); clear HB; have HO171 := n0_; have HB := n1_; clear n0_ n1_; (try clear hb); (try clear hb2); (try clear hk); (try clear hi); (try clear ho0); obtain ⟨Ao104, co104, eo104⟩ := Kd.V_slice HO171.out; subst eo104) | ((with_reducible refine gate_callee (f := 45) rfl ?_); refine goesL_ (some 27) rfl rfl Th.func45 (by kernel_rfl) rfl #[.slice Ao104 t169.length co104, .int .i64 ji6] rfl (by (try simp only [List.map_toArray, List.map_cons, List.map_nil]); first | done | (simp only [hji6]; rfl) | rfl | (simp only [List.length_drop, List.length_take]; rfl)) ?_; (with_reducible refine (hash_Spread.calls _ _ t169 ji6 t172 t173 _ ?side1 ?side2 A8.out).mono ?_); (case side1 => repeat (first | exact (Kd.V_reads' HO171.out).2.2 | (with_reducible refine Kd.C_alloc ?_ _) | (with_reducible refine Kd.C_drewN ?_ _) | (with_reducible refine Kd.C_drew ?_))); (case side2 => exact (Kd.V_reads' HO171.out).2.1); rintro e w105 ⟨v174, rfl, ho0, hb⟩; refine ⟨_, rfl, ?_⟩; have n0_ := Aside0.mk (Kd.V_elder' (by (with_reducible repeat (first | apply Kd.V_alloc | apply Kd.V_drewN | apply Kd.V_drew)); exact HO171.out) (Kd.R_base ho0) hb); have n1_ := Aside0.mk (Kd.R_lower ho0 (below_size (by repeat (first | (with_reducible first | exact HB.out | apply below_alloc | apply pw_below_drewN | apply below_drew1) | exact HB.out)))); have n2_ := Aside0.mk (below_step (by repeat (first | (with_reducible first | exact HB.out | apply below_alloc | apply pw_below_drewN | apply below_drew1) | exact HB.out)) hb); clear HO171; clear HB; have HO171 := n0_; have HO175 := n1_; have HB := n2_; clear n0_ n1_ n2_; (try clear hb); (try clear hb2); (try clear hk); (try clear hi); (try clear ho0)) | ((with_reducible refine gate_callee (f := 45) rfl ?_); refine goesL_ (some 34) rfl rfl Th.func45 (by kernel_rfl) rfl #[.slice Ao104 t169.length co104, .int .i64 (wrap64 (Int.tdiv (ji6) 2))] rfl (by (try simp only [List.map_toArray, List.map_cons, List.map_nil]); first | done | (simp only [hji6]; rfl) | rfl | (simp only [List.length_drop, List.length_take]; rfl)) ?_; (with_reducible refine (hash_Spread.calls _ _ t169 (wrap64 (Int.tdiv (ji6) 2)) t176 t177 _ ?side1 ?side2 A9.out).mono ?_); (case side1 => repeat (first | exact (Kd.V_reads' HO171.out).2.2 | (with_reducible refine Kd.C_alloc ?_ _) | (with_reducible refine Kd.C_drewN ?_ _) | (with_reducible refine Kd.C_drew ?_))); (case side2 => exact (Kd.V_reads' HO171.out).2.1); rintro e w106 ⟨v178, rfl, ho0, hb⟩; refine ⟨_, rfl, ?_⟩; have n0_ := Aside0.mk (Kd.V_elder' (by (with_reducible repeat (first | apply Kd.V_alloc | apply Kd.V_drewN | apply Kd.V_drew)); exact HO171.out) (Kd.R_base ho0) hb); have n1_ := Aside0.mk (Kd.R_elder' (by (with_reducible repeat (first | apply Kd.R_alloc | apply Kd.R_drewN | apply Kd.R_drew)); exact HO175.out) (Kd.R_base ho0) hb); have n2_ := Aside0.mk (Kd.R_lower (Kd.R_new' ho0 (Kd.R_lt (by (with_reducible repeat (first | apply Kd.R_alloc | apply Kd.R_drewN | apply Kd.R_drew)); exact HO175.out))) (below_size (by repeat (first | (with_reducible first | exact HB.out | apply below_alloc | apply pw_below_drewN | apply below_drew1) | exact HB.out)))); have n3_ := Aside0.mk (below_step (by repeat (first | (with_reducible first | exact HB.out | apply below_alloc | apply pw_below_drewN | apply below_drew1) | exact HB.out)) hb); clear HO171; clear HO175; clear HB; have HO171 := n0_; have HO175 := n1_; have HO179 := n2_; have HB := n3_; clear n0_ n1_ n2_ n3_; (try clear hb); (try clear hb2); (try clear hk); (try clear hi); (try clear ho0)) | ((with_reducible refine gate_callee (f := 49) rfl ?_); refine goesL_ (some 39) rfl rfl Th.func49 (by kernel_rfl) rfl #[] rfl (by (try simp only [List.map_toArray, List.map_cons, List.map_nil]); first | done | rfl | (simp only [List.length_drop, List.length_take]; rfl)) ?_; (with_reducible refine (footwaylaw07_alive.calls k  true _ A100.out).mono ?_); rintro e w107 ⟨rfl, hb⟩; refine ⟨_, rfl, ?_⟩; have n0_ := Aside0.mk (Kd.V_below (by (with_reducible repeat (first | apply Kd.V_alloc | apply Kd.V_drewN | apply Kd.V_drew)); exact HO171.out) hb); have n1_ := Aside0.mk (Kd.R_below (by (with_reducible repeat (first | apply Kd.R_alloc | apply Kd.R_drewN | apply Kd.R_drew)); exact HO175.out) hb); have n2_ := Aside0.mk (Kd.R_below (by (with_reducible repeat (first | apply Kd.R_alloc | apply Kd.R_drewN | apply Kd.R_drew)); exact HO179.out) hb); have n3_ := Aside0.mk (below_step (by repeat (first | (with_reducible first | exact HB.out | apply below_alloc | apply pw_below_drewN | apply below_drew1) | exact HB.out)) hb); clear HO171; clear HO175; clear HO179; clear HB; have HO171 := n0_; have HO175 := n1_; have HO179 := n2_; have HB := n3_; clear n0_ n1_ n2_ n3_; (try clear hb); (try clear hb2); (try clear hk); (try clear hi)))
     go_ret
     exact ⟨by first | rfl | (simp [errW_none, errW_some] <;> rfl) | (simp only [← hji4, ← hji6]; first | rfl | (simp [errW_none, errW_some] <;> rfl)) | (simp [*, errW_none, errW_some] <;> rfl), by repeat (first | (with_reducible first | exact HB.out | apply below_alloc | apply pw_below_drewN | apply below_drew1) | exact HB.out)⟩
    ·rw [if_neg c102] at H
     have c102b0 : (t173 == 1) = false := beq_eq_false_iff_ne.mpr c102
     have c102b1 : (t173 != 1) = true := bne_iff_ne.mpr c102
     obtain rfl := Option.some.inj H
     go_enter Th.func12, Try.ntmps12
     go_wp2_with (first | ((with_reducible refine gate_callee (f := 42) rfl ?_); refine goesL_ (some 23) rfl rfl Th.func42 (by kernel_rfl) rfl #[.slice A0 l0.length c0] rfl (by (try simp only [List.map_toArray, List.map_cons, List.map_nil]); first | done | rfl | (simp only [List.length_drop, List.length_take]; rfl)) ?_; (with_reducible refine (footwaylaw07_few.calls (fun k_ => k_ < w.heap.size) _ _ l0 t169 _ ?side1 A7.out).mono ?_); (case side1 => exact Kd.V_mk HC0.out (Kd.F_below (Kd.C_F (Kd.heap_int .i64) HR0.out) (by repeat (first | (with_reducible first | exact HB.out | apply below_alloc | apply pw_below_drewN | apply below_drew1) | exact HB.out)))); rintro e w108 ⟨v170, rfl, ho0, hb⟩; refine ⟨_, rfl, ?_⟩; have n0_ := Aside0.mk (Kd.V_lower (Kd.V_mono (ok' := fun k_ => True) ho0 (fun k_ hk_ => trivial)) (below_size (by repeat (first | (with_reducible first | exact HB.out | apply below_alloc | apply pw_below_drewN | apply below_drew1) | exact HB.out)))); have n1_ := Aside0.mk (below_step (by repeat (first | (with_reducible first | exact HB.out | apply below_alloc | apply pw_below_drewN | apply below_drew1) | exact HB.out)) hb); clear HB; have HO171 := n0_; have HB := n1_; clear n0_ n1_; (try clear hb); (try clear hb2); (try clear hk); (try clear hi); (try clear ho0); obtain ⟨Ao109, co109, eo109⟩ := Kd.V_slice HO171.out; subst eo109) | ((with_reducible refine gate_callee (f := 45) rfl ?_); refine goesL_ (some 27) rfl rfl Th.func45 (by kernel_rfl) rfl #[.slice Ao109 t169.length co109, .int .i64 ji6] rfl (by (try simp only [List.map_toArray, List.map_cons, List.map_nil]); first | done | (simp only [hji6]; rfl) | rfl | (simp only [List.length_drop, List.length_take]; rfl)) ?_; (with_reducible refine (hash_Spread.calls _ _ t169 ji6 t172 t173 _ ?side1 ?side2 A8.out).mono ?_); (case side1 => repeat (first | exact (Kd.V_reads' HO171.out).2.2 | (with_reducible refine Kd.C_alloc ?_ _) | (with_reducible refine Kd.C_drewN ?_ _) | (with_reducible refine Kd.C_drew ?_))); (case side2 => exact (Kd.V_reads' HO171.out).2.1); rintro e w110 ⟨v174, rfl, ho0, hb⟩; refine ⟨_, rfl, ?_⟩; have n0_ := Aside0.mk (Kd.V_elder' (by (with_reducible repeat (first | apply Kd.V_alloc | apply Kd.V_drewN | apply Kd.V_drew)); exact HO171.out) (Kd.R_base ho0) hb); have n1_ := Aside0.mk (Kd.R_lower ho0 (below_size (by repeat (first | (with_reducible first | exact HB.out | apply below_alloc | apply pw_below_drewN | apply below_drew1) | exact HB.out)))); have n2_ := Aside0.mk (below_step (by repeat (first | (with_reducible first | exact HB.out | apply below_alloc | apply pw_below_drewN | apply below_drew1) | exact HB.out)) hb); clear HO171; clear HB; have HO171 := n0_; have HO175 := n1_; have HB := n2_; clear n0_ n1_ n2_; (try clear hb); (try clear hb2); (try clear hk); (try clear hi); (try clear ho0)) | ((with_reducible refine gate_callee (f := 45) rfl ?_); refine goesL_ (some 34) rfl rfl Th.func45 (by kernel_rfl) rfl #[.slice Ao109 t169.length co109, .int .i64 (wrap64 (Int.tdiv (ji6) 2))] rfl (by (try simp only [List.map_toArray, List.map_cons, List.map_nil]); first | done | (simp only [hji6]; rfl) | rfl | (simp only [List.length_drop, List.length_take]; rfl)) ?_; (with_reducible refine (hash_Spread.calls _ _ t169 (wrap64 (Int.tdiv (ji6) 2)) t176 t177 _ ?side1 ?side2 A9.out).mono ?_); (case side1 => repeat (first | exact (Kd.V_reads' HO171.out).2.2 | (with_reducible refine Kd.C_alloc ?_ _) | (with_reducible refine Kd.C_drewN ?_ _) | (with_reducible refine Kd.C_drew ?_))); (case side2 => exact (Kd.V_reads' HO171.out).2.1); rintro e w111 ⟨v178, rfl, ho0, hb⟩; refine ⟨_, rfl, ?_⟩; have n0_ := Aside0.mk (Kd.V_elder' (by (with_reducible repeat (first | apply Kd.V_alloc | apply Kd.V_drewN | apply Kd.V_drew)); exact HO171.out) (Kd.R_base ho0) hb); have n1_ := Aside0.mk (Kd.R_elder' (by (with_reducible repeat (first | apply Kd.R_alloc | apply Kd.R_drewN | apply Kd.R_drew)); exact HO175.out) (Kd.R_base ho0) hb); have n2_ := Aside0.mk (Kd.R_lower (Kd.R_new' ho0 (Kd.R_lt (by (with_reducible repeat (first | apply Kd.R_alloc | apply Kd.R_drewN | apply Kd.R_drew)); exact HO175.out))) (below_size (by repeat (first | (with_reducible first | exact HB.out | apply below_alloc | apply pw_below_drewN | apply below_drew1) | exact HB.out)))); have n3_ := Aside0.mk (below_step (by repeat (first | (with_reducible first | exact HB.out | apply below_alloc | apply pw_below_drewN | apply below_drew1) | exact HB.out)) hb); clear HO171; clear HO175; clear HB; have HO171 := n0_; have HO175 := n1_; have HO179 := n2_; have HB := n3_; clear n0_ n1_ n2_ n3_; (try clear hb); (try clear hb2); (try clear hk); (try clear hi); (try clear ho0)) | ((with_reducible refine gate_callee (f := 49) rfl ?_); refine goesL_ (some 39) rfl rfl Th.func49 (by kernel_rfl) rfl #[] rfl (by (try simp only [List.map_toArray, List.map_cons, List.map_nil]); first | done | rfl | (simp only [List.length_drop, List.length_take]; rfl)) ?_; (with_reducible refine (footwaylaw07_alive.calls k  true _ A100.out).mono ?_); rintro e w112 ⟨rfl, hb⟩; refine ⟨_, rfl, ?_⟩; have n0_ := Aside0.mk (Kd.V_below (by (with_reducible repeat (first | apply Kd.V_alloc | apply Kd.V_drewN | apply Kd.V_drew)); exact HO171.out) hb); have n1_ := Aside0.mk (Kd.R_below (by (with_reducible repeat (first | apply Kd.R_alloc | apply Kd.R_drewN | apply Kd.R_drew)); exact HO175.out) hb); have n2_ := Aside0.mk (Kd.R_below (by (with_reducible repeat (first | apply Kd.R_alloc | apply Kd.R_drewN | apply Kd.R_drew)); exact HO179.out) hb); have n3_ := Aside0.mk (below_step (by repeat (first | (with_reducible first | exact HB.out | apply below_alloc | apply pw_below_drewN | apply below_drew1) | exact HB.out)) hb); clear HO171; clear HO175; clear HO179; clear HB; have HO171 := n0_; have HO175 := n1_; have HO179 := n2_; have HB := n3_; clear n0_ n1_ n2_ n3_; (try clear hb); (try clear hb2); (try clear hk); (try clear hi)))
     go_ret
     exact ⟨by first | rfl | (simp [errW_none, errW_some] <;> rfl) | (simp only [← hji4, ← hji6]; first | rfl | (simp [errW_none, errW_some] <;> rfl)) | (simp [*, errW_none, errW_some] <;> rfl), by repeat (first | (with_reducible first | exact HB.out | apply below_alloc | apply pw_below_drewN | apply below_drew1) | exact HB.out)⟩
   ·replace c101 := Bool.eq_false_iff.mpr c101
    subst c101
    have H1 : (some false) = some r := by rw [if_neg (show ¬ (false = true) by decide)] at H; exact H
    clear H
    have H := H1
    clear H1
    obtain rfl := Option.some.inj H
    go_enter Th.func12, Try.ntmps12
    go_wp2_with (first | ((with_reducible refine gate_callee (f := 42) rfl ?_); refine goesL_ (some 23) rfl rfl Th.func42 (by kernel_rfl) rfl #[.slice A0 l0.length c0] rfl (by (try simp only [List.map_toArray, List.map_cons, List.map_nil]); first | done | rfl | (simp only [List.length_drop, List.length_take]; rfl)) ?_; (with_reducible refine (footwaylaw07_few.calls (fun k_ => k_ < w.heap.size) _ _ l0 t169 _ ?side1 A7.out).mono ?_); (case side1 => exact Kd.V_mk HC0.out (Kd.F_below (Kd.C_F (Kd.heap_int .i64) HR0.out) (by repeat (first | (with_reducible first | exact HB.out | apply below_alloc | apply pw_below_drewN | apply below_drew1) | exact HB.out)))); rintro e w113 ⟨v170, rfl, ho0, hb⟩; refine ⟨_, rfl, ?_⟩; have n0_ := Aside0.mk (Kd.V_lower (Kd.V_mono (ok' := fun k_ => True) ho0 (fun k_ hk_ => trivial)) (below_size (by repeat (first | (with_reducible first | exact HB.out | apply below_alloc | apply pw_below_drewN | apply below_drew1) | exact HB.out)))); have n1_ := Aside0.mk (below_step (by repeat (first | (with_reducible first | exact HB.out | apply below_alloc | apply pw_below_drewN | apply below_drew1) | exact HB.out)) hb); clear HB; have HO171 := n0_; have HB := n1_; clear n0_ n1_; (try clear hb); (try clear hb2); (try clear hk); (try clear hi); (try clear ho0); obtain ⟨Ao114, co114, eo114⟩ := Kd.V_slice HO171.out; subst eo114) | ((with_reducible refine gate_callee (f := 45) rfl ?_); refine goesL_ (some 27) rfl rfl Th.func45 (by kernel_rfl) rfl #[.slice Ao114 t169.length co114, .int .i64 ji6] rfl (by (try simp only [List.map_toArray, List.map_cons, List.map_nil]); first | done | (simp only [hji6]; rfl) | rfl | (simp only [List.length_drop, List.length_take]; rfl)) ?_; (with_reducible refine (hash_Spread.calls _ _ t169 ji6 t172 t173 _ ?side1 ?side2 A8.out).mono ?_); (case side1 => repeat (first | exact (Kd.V_reads' HO171.out).2.2 | (with_reducible refine Kd.C_alloc ?_ _) | (with_reducible refine Kd.C_drewN ?_ _) | (with_reducible refine Kd.C_drew ?_))); (case side2 => exact (Kd.V_reads' HO171.out).2.1); rintro e w115 ⟨v174, rfl, ho0, hb⟩; refine ⟨_, rfl, ?_⟩; have n0_ := Aside0.mk (Kd.V_elder' (by (with_reducible repeat (first | apply Kd.V_alloc | apply Kd.V_drewN | apply Kd.V_drew)); exact HO171.out) (Kd.R_base ho0) hb); have n1_ := Aside0.mk (Kd.R_lower ho0 (below_size (by repeat (first | (with_reducible first | exact HB.out | apply below_alloc | apply pw_below_drewN | apply below_drew1) | exact HB.out)))); have n2_ := Aside0.mk (below_step (by repeat (first | (with_reducible first | exact HB.out | apply below_alloc | apply pw_below_drewN | apply below_drew1) | exact HB.out)) hb); clear HO171; clear HB; have HO171 := n0_; have HO175 := n1_; have HB := n2_; clear n0_ n1_ n2_; (try clear hb); (try clear hb2); (try clear hk); (try clear hi); (try clear ho0)) | ((with_reducible refine gate_callee (f := 45) rfl ?_); refine goesL_ (some 34) rfl rfl Th.func45 (by kernel_rfl) rfl #[.slice Ao114 t169.length co114, .int .i64 (wrap64 (Int.tdiv (ji6) 2))] rfl (by (try simp only [List.map_toArray, List.map_cons, List.map_nil]); first | done | (simp only [hji6]; rfl) | rfl | (simp only [List.length_drop, List.length_take]; rfl)) ?_; (with_reducible refine (hash_Spread.calls _ _ t169 (wrap64 (Int.tdiv (ji6) 2)) t176 t177 _ ?side1 ?side2 A9.out).mono ?_); (case side1 => repeat (first | exact (Kd.V_reads' HO171.out).2.2 | (with_reducible refine Kd.C_alloc ?_ _) | (with_reducible refine Kd.C_drewN ?_ _) | (with_reducible refine Kd.C_drew ?_))); (case side2 => exact (Kd.V_reads' HO171.out).2.1); rintro e w116 ⟨v178, rfl, ho0, hb⟩; refine ⟨_, rfl, ?_⟩; have n0_ := Aside0.mk (Kd.V_elder' (by (with_reducible repeat (first | apply Kd.V_alloc | apply Kd.V_drewN | apply Kd.V_drew)); exact HO171.out) (Kd.R_base ho0) hb); have n1_ := Aside0.mk (Kd.R_elder' (by (with_reducible repeat (first | apply Kd.R_alloc | apply Kd.R_drewN | apply Kd.R_drew)); exact HO175.out) (Kd.R_base ho0) hb); have n2_ := Aside0.mk (Kd.R_lower (Kd.R_new' ho0 (Kd.R_lt (by (with_reducible repeat (first | apply Kd.R_alloc | apply Kd.R_drewN | apply Kd.R_drew)); exact HO175.out))) (below_size (by repeat (first | (with_reducible first | exact HB.out | apply below_alloc | apply pw_below_drewN | apply below_drew1) | exact HB.out)))); have n3_ := Aside0.mk (below_step (by repeat (first | (with_reducible first | exact HB.out | apply below_alloc | apply pw_below_drewN | apply below_drew1) | exact HB.out)) hb); clear HO171; clear HO175; clear HB; have HO171 := n0_; have HO175 := n1_; have HO179 := n2_; have HB := n3_; clear n0_ n1_ n2_ n3_; (try clear hb); (try clear hb2); (try clear hk); (try clear hi); (try clear ho0)) | ((with_reducible refine gate_callee (f := 49) rfl ?_); refine goesL_ (some 39) rfl rfl Th.func49 (by kernel_rfl) rfl #[] rfl (by (try simp only [List.map_toArray, List.map_cons, List.map_nil]); first | done | rfl | (simp only [List.length_drop, List.length_take]; rfl)) ?_; (with_reducible refine (footwaylaw07_alive.calls k  false _ A100.out).mono ?_); rintro e w117 ⟨rfl, hb⟩; refine ⟨_, rfl, ?_⟩; have n0_ := Aside0.mk (Kd.V_below (by (with_reducible repeat (first | apply Kd.V_alloc | apply Kd.V_drewN | apply Kd.V_drew)); exact HO171.out) hb); have n1_ := Aside0.mk (Kd.R_below (by (with_reducible repeat (first | apply Kd.R_alloc | apply Kd.R_drewN | apply Kd.R_drew)); exact HO175.out) hb); have n2_ := Aside0.mk (Kd.R_below (by (with_reducible repeat (first | apply Kd.R_alloc | apply Kd.R_drewN | apply Kd.R_drew)); exact HO179.out) hb); have n3_ := Aside0.mk (below_step (by repeat (first | (with_reducible first | exact HB.out | apply below_alloc | apply pw_below_drewN | apply below_drew1) | exact HB.out)) hb); clear HO171; clear HO175; clear HO179; clear HB; have HO171 := n0_; have HO175 := n1_; have HO179 := n2_; have HB := n3_; clear n0_ n1_ n2_ n3_; (try clear hb); (try clear hb2); (try clear hk); (try clear hi)))
    go_ret
    exact ⟨by first | rfl | (simp [errW_none, errW_some] <;> rfl) | (simp only [← hji4, ← hji6]; first | rfl | (simp [errW_none, errW_some] <;> rfl)) | (simp [*, errW_none, errW_some] <;> rfl), by repeat (first | (with_reducible first | exact HB.out | apply below_alloc | apply pw_below_drewN | apply below_drew1) | exact HB.out)⟩
 ·rw [if_neg c5] at H
  exact absurd H (by simp)
def footwaylaw07_HashHalves.Pure : Prop := ∀ (l0 : List Int) (a1 : Int) (a2 : Int), l0.length ≤ maxLen → l0.length * 8 ≤ 140737488351232 → (∀ x ∈ l0, (Lit.int .i64 x).wf = true) → (Lit.int .i64 a1).wf = true → (Lit.int .i64 a2).wf = true → ∃ k, footwaylaw07_HashHalves.f k l0 a1 a2 = some true
theorem footwaylaw07_HashHalves.walk (P : footwaylaw07_HashHalves.Pure) (a0 : Option Addr) (len0 cap0 : Nat) (z0 : List Int) (a1 : Int) (a2 : Int) (w : World) (w0 : (a0 = none ∧ len0 = 0 ∧ cap0 = 0 ∧ z0 = []) ∨ ∃ x, a0 = some x ∧ len0 ≤ cap0 ∧ cap0 ≤ maxLen ∧ z0.length = cap0 ∧ (∀ i, i < z0.length → w.cell? (x.add i) = some (.int .i64 (z0.getD i 0))) ∧ ∀ n ∈ z0, (Lit.int .i64 n).wf = true) (y0 : len0 * 8 ≤ 140737488351232) (w1 : (Lit.int .i64 a1).wf = true) (w2 : (Lit.int .i64 a2).wf = true) :
  Calls Th.prog 12 #[.slice a0 len0 cap0, .int .i64 a1, .int .i64 a2] w fun e w' => e = .returned (.bool true) ∧ Below w.heap.size w w' := by
 obtain ⟨l0, rfl, hr0, hm0, hw0, hc0⟩ := ReadsInt.ofRowC w0
 obtain ⟨k, h⟩ := P l0 a1 a2 hm0 y0 hw0 w1 w2
 refine (footwaylaw07_HashHalves.calls k _ _ l0 a1 a2 true w (Kd.C_of_reads (d := (0 : Int)) (h1 := fun _ => rfl) hr0) hc0 h).mono ?_
 rintro e w' ⟨rfl, hd⟩
 exact ⟨rfl, hd⟩
end Go.Proofs.Ytnikfjfcbpeieaa.PHp
end
section
namespace Go.Proofs.Ytnikfjfcbpeieaa.Pure
open Go.RowKit Go.Proofs.Ytnikfjfcbpeieaa.PHp Go.Proofs.Ytnikfjfcbpeieaa.HP Go.Proofs.Ytnikfjfcbpeieaa.EHa Go.Proofs.YtnikfjfcbpeieaaW.PrintWords Go.Proofs.YtnikfjfcbpeieaaW.PrintLast Go.Proofs.YtnikfjfcbpeieaaW.PrintMore
set_option linter.unusedVariables false
set_option linter.unusedSimpArgs false
theorem tmod_in (k : Int) {m : Int} (hm : 0 < m) (hm2 : m ≤ 1000) : 0 ≤ Int.tmod (wrap64 (Int.tmod k m + m)) m ∧ Int.tmod (wrap64 (Int.tmod k m + m)) m < m := by
 have h1 : -m < Int.tmod k m ∧ Int.tmod k m < m := ⟨Int.lt_tmod_of_pos k hm, Int.tmod_lt_of_pos k hm⟩
 generalize Int.tmod k m = r at *
 have e : wrap64 (r + m) = r + m := by unfold wrap64; omega
 rw [e, Int.tmod_eq_emod_of_nonneg (by omega)]
 exact ⟨Int.emod_nonneg _ (by omega), Int.emod_lt_of_pos _ hm⟩
theorem shl_two {e : Int} (h0 : 0 ≤ e) (h1 : e < 4) : ∃ h : Nat, shl .i64 2 e = ((2 * h : Nat) : Int) ∧ wrap64 (Int.tdiv ((2 * h : Nat) : Int) 2) = (h : Int) ∧ (h = 1 ∨ h = 2 ∨ h = 4 ∨ h = 8) := by
 have : e = 0 ∨ e = 1 ∨ e = 2 ∨ e = 3 := by omega
 rcases this with rfl | rfl | rfl | rfl
 ·exact ⟨1, by decide, by unfold wrap64; decide, by decide⟩
 ·exact ⟨2, by decide, by unfold wrap64; decide, by decide⟩
 ·exact ⟨4, by decide, by unfold wrap64; decide, by decide⟩
 ·exact ⟨8, by decide, by unfold wrap64; decide, by decide⟩
theorem cnt_cons (y : Int) (l : List Int) (n b : Int) : cnt (y :: l) n b = cnt l n b + if Hk.bkx y n = b then 1 else 0 := by
 unfold cnt
 rw [List.countP_cons]
 by_cases h : Hk.bkx y n = b
 ·rw [if_pos h, decide_eq_true h]; simp
 ·rw [if_neg h, decide_eq_false h]; simp
theorem set_h {h : Nat} (hh : h = 1 ∨ h = 2 ∨ h = 4 ∨ h = 8) : ((h : Int) = 1 ∨ (h : Int) = 2 ∨ (h : Int) = 4 ∨ (h : Int) = 8 ∨ (h : Int) = 16) ∧ (((2 * h : Nat) : Int) = 1 ∨ ((2 * h : Nat) : Int) = 2 ∨ ((2 * h : Nat) : Int) = 4 ∨ ((2 * h : Nat) : Int) = 8 ∨ ((2 * h : Nat) : Int) = 16) := by omega
theorem cnt_half {h : Nat} (hh : h = 1 ∨ h = 2 ∨ h = 4 ∨ h = 8) (l : List Int) {i : Nat} (hi : i < h) : cnt l h i = cnt l (2 * h : Nat) i + cnt l (2 * h : Nat) ((i + h : Nat) : Int) := by
 obtain ⟨s1, s2⟩ := set_h hh
 induction l with
 | nil => rfl
 | cons y l ih =>
  rw [cnt_cons, cnt_cons, cnt_cons, ih]
  have e1 := bkx_mod y s1
  have e2 := bkx_mod y s2
  have hs := sumx_range y
  rw [e1, e2]
  generalize cnt l (2 * h : Nat) (i : Int) = c1
  generalize cnt l (2 * h : Nat) ((i + h : Nat) : Int) = c2
  generalize Hk.sumx y = s at *
  clear ih e1 e2 s1 s2
  have key : (s % (h : Int) = (i : Int) ∧ ((s % ((2 * h : Nat) : Int) = (i : Int) ∧ s % ((2 * h : Nat) : Int) ≠ ((i + h : Nat) : Int)) ∨ (s % ((2 * h : Nat) : Int) ≠ (i : Int) ∧ s % ((2 * h : Nat) : Int) = ((i + h : Nat) : Int)))) ∨ (s % (h : Int) ≠ (i : Int) ∧ s % ((2 * h : Nat) : Int) ≠ (i : Int) ∧ s % ((2 * h : Nat) : Int) ≠ ((i + h : Nat) : Int)) := by
   rcases hh with rfl | rfl | rfl | rfl <;> omega
  rcases key with ⟨k1, ⟨k2, k3⟩ | ⟨k2, k3⟩⟩ | ⟨k1, k2, k3⟩
  ·rw [if_pos k1, if_pos k2, if_neg k3]; omega
  ·rw [if_pos k1, if_neg k2, if_pos k3]; omega
  ·rw [if_neg k1, if_neg k2, if_neg k3]; omega
theorem wrap_add {p h : Nat} (h1 : p ≤ 100) (h2 : h ≤ 100) : wrap64 ((p : Int) + (h : Int)) = ((p + h : Nat) : Int) := by unfold wrap64; omega
theorem wrap_addZ {a b : Int} (h1 : 0 ≤ a) (h2 : a ≤ 100000) (h3 : 0 ≤ b) (h4 : b ≤ 100000) : wrap64 (a + b) = a + b := by unfold wrap64; omega
theorem half_of {h : Nat} (hh : h = 1 ∨ h = 2 ∨ h = 4 ∨ h = 8) : wrap64 (Int.tdiv ((2 * h : Nat) : Int) 2) = (h : Int) := by rcases hh with rfl | rfl | rfl | rfl <;> (unfold wrap64; decide)
def tot (l : List Int) (n : Int) : Nat → Int
 | 0 => 0
 | p + 1 => tot l n p + cnt l n p
theorem tot_cons (y : Int) (l : List Int) (n : Int) (p : Nat) : tot (y :: l) n p = tot l n p + if 0 ≤ Hk.bkx y n ∧ Hk.bkx y n < p then 1 else 0 := by
 induction p with
 | zero =>
  rw [tot, tot, if_neg (by omega)]; rfl
 | succ p ih =>
  rw [tot, tot, ih, cnt_cons]
  generalize Hk.bkx y n = v
  generalize tot l n p = t
  generalize cnt l n p = c
  by_cases h1 : 0 ≤ v ∧ v < (p : Int)
  ·rw [if_pos h1, if_neg (by omega), if_pos (by omega)]; omega
  ·by_cases h2 : v = (p : Int)
   ·rw [if_neg h1, if_pos h2, if_pos (by omega)]; omega
   ·rw [if_neg h1, if_neg h2, if_neg (by omega)]; omega
theorem tot_all {h : Nat} (hh : (h : Int) = 1 ∨ (h : Int) = 2 ∨ (h : Int) = 4 ∨ (h : Int) = 8 ∨ (h : Int) = 16) (l : List Int) : tot l h h = l.length := by
 induction l with
 | nil =>
  have : ∀ p, tot [] h p = 0 := fun p => by
   induction p with
   | zero => rfl
   | succ p ih => rw [tot, ih]; rfl
  exact this h
 | cons y l ih =>
  rw [tot_cons, ih, if_pos (bkx_lt y hh), List.length_cons]
  omega
theorem tot_range (l : List Int) (n : Int) (hl : l.length ≤ 60) (p : Nat) (hp : p ≤ 16) : 0 ≤ tot l n p ∧ tot l n p ≤ 60 * p := by
 induction p with
 | zero => exact ⟨Int.le_refl _, by show (0 : Int) ≤ _; omega⟩
 | succ p ih =>
  have h1 := ih (by omega)
  have h2 := cnt_nonneg l n p
  have h3 := cnt_le l n p
  rw [tot]
  generalize tot l n p = t at *
  generalize cnt l n p = c at *
  omega
theorem rd_cn (l : List Int) (n : Nat) {p : Nat} (hp : p < n) : rd (cnts l n n) (p : Int) = cnt l n p := by
 unfold rd
 rw [Int.toNat_natCast]
 exact cnts_get l n hp
theorem cnts_turn (l : List Int) (k n j : Nat) : cnts (l.drop k ++ l.take k) n j = cnts l n j := by
 unfold cnts
 apply List.map_congr_left
 intro b _
 unfold cnt
 rw [List.countP_append, Nat.add_comm, ← List.countP_append, List.take_append_drop]
theorem all_turn (l : List Int) (k : Nat) (hr : l.all Hk.rightB = true) : (l.drop k ++ l.take k).all Hk.rightB = true := by
 rw [List.all_eq_true] at hr ⊢
 intro x hx
 rcases List.mem_append.1 hx with h | h
 ·exact hr x (List.mem_of_mem_drop h)
 ·exact hr x (List.mem_of_mem_take h)
theorem half_end {l : List Int} (hl : l.length ≤ 60) (hr : l.all Hk.rightB = true) {n : Nat} (hn : (n : Int) = 1 ∨ (n : Int) = 2 ∨ (n : Int) = 4 ∨ (n : Int) = 8 ∨ (n : Int) = 16) (K : Nat) (hK : 40 ≤ K) (t : Nat) :
  ((hash_Spread.f (([] ++ l.drop t) ++ l.take t) n).bind fun bt204 => (if bt204.2 = 0 then ((footwayref06_Same.f K (cnts l n n) bt204.1).bind fun t208 => (some t208)) else (some false))) = some true := by
 have hlen : (l.drop t ++ l.take t).length ≤ 1000 := by
  rw [List.length_append, List.length_drop, List.length_take]; omega
 rw [List.nil_append, sprOk hlen (all_turn l t hr) hn, Option.bind_some, if_pos rfl, cnts_turn, rSame _ (by rw [cnts_length]; omega) K (by rw [cnts_length]; omega), Option.bind_some]
theorem half_l {l : List Int} (hl : l.length ≤ 60) (hr : l.all Hk.rightB = true) (x2 : Int) {h : Nat} (hh : h = 1 ∨ h = 2 ∨ h = 4 ∨ h = 8) (j : Nat) : ∀ (p K : Nat), p + j = h → j + 60 ≤ K →
  footwaylaw07_HashHalves.l0 K l x2 (2 * h : Nat) (cnts l (2 * h) (2 * h)) (tot l h p) (cnts l h h) (h : Int) (p : Int) = some true := by
 obtain ⟨s1, s2⟩ := set_h hh
 induction j with
 | zero =>
  intro p K hp hK
  obtain ⟨k, rfl⟩ : ∃ k, K = k + 1 := ⟨K - 1, by omega⟩
  obtain rfl : p = h := by omega
  have hend := fun t => half_end hl hr s2 k (by omega) t
  rw [footwaylaw07_HashHalves.l0, if_neg (by omega), if_pos (tot_all s1 l)]
  by_cases h0 : (l.length : Int) > 0
  ·obtain ⟨t0, t1⟩ := tmod_in x2 (m := (l.length : Int)) h0 (by omega)
   rw [if_pos h0, if_neg (by omega), Option.bind_some, if_pos t0, if_pos (by omega), Option.bind_some]
   generalize Int.tmod (wrap64 (Int.tmod x2 (l.length : Int) + (l.length : Int))) (l.length : Int) = t at *
   rw [if_pos (by rw [List.length_nil, List.length_drop]; omega), Option.bind_some, Option.bind_some, if_pos (by rw [List.nil_append, List.length_drop, List.length_take]; omega)]
   exact hend t.toNat
  ·rw [if_neg h0, Option.bind_some, if_pos (by omega), Option.bind_some, if_pos (by rw [List.length_nil, List.length_drop]; omega), Option.bind_some, Option.bind_some, if_pos (by rw [List.nil_append, List.length_drop, List.length_take]; omega)]
   exact hend 0
 | succ j ih =>
  intro p K hp hK
  obtain ⟨k, rfl⟩ : ∃ k, K = k + 1 := ⟨K - 1, by omega⟩
  have hh8 : h ≤ 8 := by omega
  have hp16 : p < 8 := by omega
  have hph : wrap64 ((p : Int) + (h : Int)) = ((p + h : Nat) : Int) := wrap_add (by omega) (by omega)
  have hp1 : wrap64 ((p : Int) + 1) = ((p + 1 : Nat) : Int) := wrap_add (h := 1) (by omega) (by decide)
  have e1 := rd_cn l h (p := p) (by omega)
  have e2 := rd_cn l (2 * h) (p := p) (by omega)
  have e3 := rd_cn l (2 * h) (p := p + h) (by omega)
  have e4 := cnt_half hh l (i := p) (by omega)
  have l1 : ((cnts l h h).length : Int) = h := by rw [cnts_length]
  have l2 : ((cnts l (2 * h) (2 * h)).length : Int) = ((2 * h : Nat) : Int) := by rw [cnts_length]
  have hi := ih (p + 1) k (by omega) (by omega)
  obtain ⟨t0, t1⟩ := tot_range l h hl p (by omega)
  rw [tot, e4] at hi
  rw [footwaylaw07_HashHalves.l0, half_of hh, hph, e1, e2, e3, hp1, e4, l1, l2]
  clear e1 e2 e3 e4 ih hph hp1 l1 l2
  have c2 := cnt_nonneg l (2 * h : Nat) p
  have c3 := cnt_nonneg l (2 * h : Nat) ((p + h : Nat) : Int)
  have c2' := cnt_le l (2 * h : Nat) p
  have c3' := cnt_le l (2 * h : Nat) ((p + h : Nat) : Int)
  generalize cnt l (2 * h : Nat) (p : Int) = a at *
  generalize cnt l (2 * h : Nat) ((p + h : Nat) : Int) = b at *
  generalize tot l h p = t at *
  rw [wrap_addZ (a := a) (b := b) c2 (by omega) c3 (by omega), wrap_addZ (a := t) (b := a + b) t0 (by omega) (by omega) (by omega), if_pos (by omega), if_pos (by omega), if_pos (by omega), if_pos (by omega), if_pos (by omega), if_pos (by omega), if_pos rfl]
  exact hi
theorem half_all {l0 : List Int} (hl : l0.length ≤ 1000000000000000) (a1 a2 : Int) (K : Nat) (hK : 200 ≤ K) : footwaylaw07_HashHalves.f K l0 a1 a2 = some true := by
 obtain ⟨e0, e1⟩ := tmod_in a1 (m := 4) (by decide) (by decide)
 obtain ⟨h, hs, hd, hh⟩ := shl_two e0 e1
 obtain ⟨s1, s2⟩ := set_h hh
 have ht : (l0.take 60).length ≤ 60 := by rw [List.length_take]; omega
 unfold footwaylaw07_HashHalves.f
 rw [if_pos e0, hs, hd, few_eq l0 hl, Option.bind_some]
 generalize l0.take 60 = l at ht
 cases hr : l.all Hk.rightB with
 | false =>
  rw [sprBad (by omega) hr ((numB_iff _).2 s2), Option.bind_some, sprBad (by omega) hr ((numB_iff _).2 s1), Option.bind_some, if_neg (by decide), alive_yes K (by omega), Option.bind_some, if_pos rfl, if_pos rfl]
  rfl
 | true =>
  obtain ⟨k, rfl⟩ : ∃ k, K = k + 1 := ⟨K - 1, by omega⟩
  have l1 : ((cnts l h h).length : Int) = h := by rw [cnts_length]
  have l2 : ((cnts l (2 * h) (2 * h)).length : Int) = ((2 * h : Nat) : Int) := by rw [cnts_length]
  have hl0 := half_l ht hr a2 hh h 0 k (by omega) (by omega)
  rw [sprOk (by omega) hr s2, Option.bind_some, sprOk (by omega) hr s1, Option.bind_some, if_pos rfl, if_pos rfl, if_pos l2, if_pos l1, alive_yes (k + 1) (by omega), Option.bind_some, footwaylaw07_HashHalves.j0, if_neg (by decide), l1]
  exact hl0
theorem HashHalves : footwaylaw07_HashHalves.Pure := by
 intro l0 a1 a2 _ h _ _ _
 exact ⟨200, half_all (by omega) a1 a2 200 (by omega)⟩
end Go.Proofs.Ytnikfjfcbpeieaa.Pure
end
