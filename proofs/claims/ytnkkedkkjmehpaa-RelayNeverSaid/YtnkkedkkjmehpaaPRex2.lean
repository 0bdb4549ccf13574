-- Laid by a program of this session out of the translation; Lean checks it.
import Derived.Test.YtnkkedkkjmehpaaPRex0
import Derived.Test.YtnkkedkkjmehpaaPRex1
import Derived.Test.YtnkkedkkjmehpaaERel
import Derived.Test.YtnkkedkkjmehpaaERelE
namespace Go.Proofs.Ytnkkedkkjmehpaa.PRe
open Go.RowKit Go.Proofs.Ytnkkedkkjmehpaa.ERel Go.Proofs.YtnkkedkkjmehpaaW.PrintWords Go.Proofs.YtnkkedkkjmehpaaW.PrintLast Go.Proofs.YtnkkedkkjmehpaaW.PrintMore
attribute [local go_sem] max2_int min2_int max_two min_two max_three min_three max_four min_four   -- for this text's walks alone
set_option linter.unusedVariables false
set_option linter.unusedSimpArgs false

/-! ### footwaylaw13_RelayNever: function 7 -/
mutual
def footwaylaw13_RelayNever.j0 : Nat → List (S60) → Int → Int → Int → List Int → List Int → Bool → Option (Bool)
  | 0, _, _, _, _, _, _, _ => none
  | k + 1, x0, x1, x2, x3, x9, x11, x73 => if x73 = true then (some false) else (footwaylaw13_RelayNever.l0 k x0 x1 x2 x3 x9 x11 x11 (x11.length : Int) 0)
def footwaylaw13_RelayNever.l0 : Nat → List (S60) → Int → Int → Int → List Int → List Int → List Int → Int → Int → Option (Bool)
  | 0, _, _, _, _, _, _, _, _, _ => none
  | k + 1, x0, x1, x2, x3, x9, x11, x74, x75, x76 => if x76 < x75 then (if 0 ≤ x76 then (if x76 < (x74.length : Int) then (if (rd x74 x76) < 0 then (some false) else (if (rd x74 x76) ≥ (x0.length : Int) then (some false) else (if (rd x74 x76) = x1 then (some false) else (if x76 > 0 then (if 0 ≤ (wrap64 (x76 - 1)) then (if (wrap64 (x76 - 1)) < (x11.length : Int) then (if (rd x11 (wrap64 (x76 - 1))) ≥ (rd x74 x76) then (some false) else (if 0 ≤ (rd x74 x76) then (if (rd x74 x76) < (x0.length : Int) then (if ((rd_T60 x0 (rd x74 x76)).f0) = 3 then (if 0 ≤ x1 then (if x1 < (x0.length : Int) then (if ((rd_T60 x0 x1).f0) = 3 then ((footwayref06_Has.f k x9 (rd x74 x76)).bind fun t143 => (if t143 = true then (footwaylaw13_RelayNever.l0 k x0 x1 x2 x3 x9 x11 x74 x75 (wrap64 (x76 + 1))) else (some false))) else (some false)) else (none)) else (none)) else (some false)) else (none)) else (none))) else (none)) else (none)) else (if 0 ≤ (rd x74 x76) then (if (rd x74 x76) < (x0.length : Int) then (if ((rd_T60 x0 (rd x74 x76)).f0) = 3 then (if 0 ≤ x1 then (if x1 < (x0.length : Int) then (if ((rd_T60 x0 x1).f0) = 3 then ((footwayref06_Has.f k x9 (rd x74 x76)).bind fun t146 => (if t146 = true then (footwaylaw13_RelayNever.l0 k x0 x1 x2 x3 x9 x11 x74 x75 (wrap64 (x76 + 1))) else (some false))) else (some false)) else (none)) else (none)) else (some false)) else (none)) else (none)))))) else (none)) else (none)) else (if x2 = 0 then (if x3 = (-1) then ((footwayref06_Same.f k x9 x11).bind fun t147 => (some t147)) else (if (x11.length : Int) ≤ 1 then (if (x11.length : Int) = 0 then ((footwayref06_Has.f k x9 x3).bind fun t148 => (some (((x11.length : Int) == 1) == t148))) else (if 0 < (x11.length : Int) then (if (rd x11 0) = x3 then ((footwayref06_Has.f k x9 x3).bind fun t150 => (some (((x11.length : Int) == 1) == t150))) else (some false)) else (none))) else (some false))) else (some true))
end
def footwaylaw13_RelayNever.f (k : Nat) (l0 : List (S60)) (a1 : Int) (a2 : Int) (a3 : Int) : Option (Bool) := (footwaylaw13_few.f l0).bind fun t121 => ((relay_Flood.f t121 a1).bind fun bt124 => ((relay_Egress.f t121 a1 a2 a3).bind fun bt128 => (if bt128.2 = 0 then (if bt124.2 = 0 then (if a1 < 0 then (footwaylaw13_RelayNever.j0 k t121 a1 a2 a3 bt124.1 bt128.1 true) else (if a1 ≥ (t121.length : Int) then (footwaylaw13_RelayNever.j0 k t121 a1 a2 a3 bt124.1 bt128.1 true) else (if a2 = 2 then (if (bt128.1.length : Int) = 0 then (if a2 = 1 then ((footwayref06_Same.f k bt124.1 bt128.1).bind fun t133 => (if t133 = true then ((footwaylaw13_alive.f k).bind fun t134 => (footwaylaw13_RelayNever.j0 k t121 a1 a2 a3 bt124.1 bt128.1 (!t134))) else (footwaylaw13_RelayNever.j0 k t121 a1 a2 a3 bt124.1 bt128.1 true))) else ((footwaylaw13_alive.f k).bind fun t135 => (footwaylaw13_RelayNever.j0 k t121 a1 a2 a3 bt124.1 bt128.1 (!t135)))) else (footwaylaw13_RelayNever.j0 k t121 a1 a2 a3 bt124.1 bt128.1 true)) else (if a2 = 1 then ((footwayref06_Same.f k bt124.1 bt128.1).bind fun t136 => (if t136 = true then ((footwaylaw13_alive.f k).bind fun t137 => (footwaylaw13_RelayNever.j0 k t121 a1 a2 a3 bt124.1 bt128.1 (!t137))) else (footwaylaw13_RelayNever.j0 k t121 a1 a2 a3 bt124.1 bt128.1 true))) else ((footwaylaw13_alive.f k).bind fun t138 => (footwaylaw13_RelayNever.j0 k t121 a1 a2 a3 bt124.1 bt128.1 (!t138))))))) else (footwaylaw13_RelayNever.j0 k t121 a1 a2 a3 bt124.1 bt128.1 true)) else ((footwaylaw13_alive.f k).bind fun t132 => (if t132 = true then (some ((bt128.1.length : Int) == 0)) else (some false))))))
theorem footwaylaw13_RelayNever.mono_l : ∀ k, (∀ y0 y1 y2 y3 y4 y5 y6, LeO (footwaylaw13_RelayNever.j0 k y0 y1 y2 y3 y4 y5 y6) (footwaylaw13_RelayNever.j0 (k + 1) y0 y1 y2 y3 y4 y5 y6)) ∧ (∀ y0 y1 y2 y3 y4 y5 y6 y7 y8, LeO (footwaylaw13_RelayNever.l0 k y0 y1 y2 y3 y4 y5 y6 y7 y8) (footwaylaw13_RelayNever.l0 (k + 1) y0 y1 y2 y3 y4 y5 y6 y7 y8))
  | 0 => ⟨fun _ _ _ _ _ _ _ r h => by simp [footwaylaw13_RelayNever.j0] at h, fun _ _ _ _ _ _ _ _ _ r h => by simp [footwaylaw13_RelayNever.l0] at h⟩
  | k + 1 => by
    obtain ⟨ih0, ih1⟩ := footwaylaw13_RelayNever.mono_l k
    refine ⟨?_, ?_⟩
    · intro y0 y1 y2 y3 y4 y5 y6
      unfold footwaylaw13_RelayNever.j0
      repeat' first
      | (with_reducible exact ih0 _ _ _ _ _ _ _)
      | (with_reducible exact ih1 _ _ _ _ _ _ _ _ _)
      | (with_reducible exact footwaylaw13_alive.mono _)
      | (with_reducible exact footwayref06_Has.mono _ _ _)
      | (with_reducible exact footwayref06_Same.mono _ _ _)
      | (with_reducible exact LeO.refl _)
      | (with_reducible exact LeO.none _)
      | (with_reducible refine LeO.ite ?_ ?_)
      | (with_reducible refine LeO.bind ?_ (fun _ => ?_))
      | exact ih0 _ _ _ _ _ _ _
      | exact ih1 _ _ _ _ _ _ _ _ _
      | exact footwaylaw13_alive.mono _
      | exact footwayref06_Has.mono _ _ _
      | exact footwayref06_Same.mono _ _ _
      | exact LeO.none _
      | refine LeO.ite ?_ ?_
      | refine LeO.bind ?_ (fun _ => ?_)
    · intro y0 y1 y2 y3 y4 y5 y6 y7 y8
      unfold footwaylaw13_RelayNever.l0
      repeat' first
      | (with_reducible exact ih0 _ _ _ _ _ _ _)
      | (with_reducible exact ih1 _ _ _ _ _ _ _ _ _)
      | (with_reducible exact footwaylaw13_alive.mono _)
      | (with_reducible exact footwayref06_Has.mono _ _ _)
      | (with_reducible exact footwayref06_Same.mono _ _ _)
      | (with_reducible exact LeO.refl _)
      | (with_reducible exact LeO.none _)
      | (with_reducible refine LeO.ite ?_ ?_)
      | (with_reducible refine LeO.bind ?_ (fun _ => ?_))
      | exact ih0 _ _ _ _ _ _ _
      | exact ih1 _ _ _ _ _ _ _ _ _
      | exact footwaylaw13_alive.mono _
      | exact footwayref06_Has.mono _ _ _
      | exact footwayref06_Same.mono _ _ _
      | exact LeO.none _
      | refine LeO.ite ?_ ?_
      | refine LeO.bind ?_ (fun _ => ?_)
theorem footwaylaw13_RelayNever.mono : ∀ a0 a1 a2 a3 k, LeO (footwaylaw13_RelayNever.f k a0 a1 a2 a3) (footwaylaw13_RelayNever.f (k + 1) a0 a1 a2 a3) := by
  intro a0 a1 a2 a3 k
  obtain ⟨ih0, ih1⟩ := footwaylaw13_RelayNever.mono_l k
  unfold footwaylaw13_RelayNever.f
  repeat' first
      | (with_reducible exact ih0 _ _ _ _ _ _ _)
      | (with_reducible exact ih1 _ _ _ _ _ _ _ _ _)
      | (with_reducible exact footwaylaw13_alive.mono _)
      | (with_reducible exact footwayref06_Has.mono _ _ _)
      | (with_reducible exact footwayref06_Same.mono _ _ _)
      | (with_reducible exact LeO.refl _)
      | (with_reducible exact LeO.none _)
      | (with_reducible refine LeO.ite ?_ ?_)
      | (with_reducible refine LeO.bind ?_ (fun _ => ?_))
      | exact ih0 _ _ _ _ _ _ _
      | exact ih1 _ _ _ _ _ _ _ _ _
      | exact footwaylaw13_alive.mono _
      | exact footwayref06_Has.mono _ _ _
      | exact footwayref06_Same.mono _ _ _
      | exact LeO.none _
      | refine LeO.ite ?_ ?_
      | refine LeO.bind ?_ (fun _ => ?_)
set_option maxHeartbeats 8000000 in
set_option maxRecDepth 100000 in
theorem footwaylaw13_RelayNever.calls (k : Nat) (A0 : Option Addr) (c0 : Nat) (l0 : List (S60)) (a1 : Int) (a2 : Int) (a3 : Int) (r : Bool) (w : World) (hr0 : Kd.C k60 w A0 l0.length l0) (hc0 : l0.length ≤ c0) (h : footwaylaw13_RelayNever.f k l0 a1 a2 a3 = some r) :
    Calls Try.prog 7 #[.slice A0 l0.length c0, .int .i64 a1, .int .i64 a2, .int .i64 a3] w fun e w' => e = .returned (.bool r) ∧ Below w.heap.size w w' := by
  have HR0 := Aside0.mk hr0
  have HC0 := Aside0.mk hc0
  clear hr0 hc0
  have HB := Aside0.mk (Below.refl w.heap.size w)
  have H : ((footwaylaw13_few.f l0).bind fun t121 => ((relay_Flood.f t121 a1).bind fun bt124 => ((relay_Egress.f t121 a1 a2 a3).bind fun bt128 => (if bt128.2 = 0 then (if bt124.2 = 0 then (if a1 < 0 then (footwaylaw13_RelayNever.j0 k t121 a1 a2 a3 bt124.1 bt128.1 true) else (if a1 ≥ (t121.length : Int) then (footwaylaw13_RelayNever.j0 k t121 a1 a2 a3 bt124.1 bt128.1 true) else (if a2 = 2 then (if (bt128.1.length : Int) = 0 then (if a2 = 1 then ((footwayref06_Same.f k bt124.1 bt128.1).bind fun t133 => (if t133 = true then ((footwaylaw13_alive.f k).bind fun t134 => (footwaylaw13_RelayNever.j0 k t121 a1 a2 a3 bt124.1 bt128.1 (!t134))) else (footwaylaw13_RelayNever.j0 k t121 a1 a2 a3 bt124.1 bt128.1 true))) else ((footwaylaw13_alive.f k).bind fun t135 => (footwaylaw13_RelayNever.j0 k t121 a1 a2 a3 bt124.1 bt128.1 (!t135)))) else (footwaylaw13_RelayNever.j0 k t121 a1 a2 a3 bt124.1 bt128.1 true)) else (if a2 = 1 then ((footwayref06_Same.f k bt124.1 bt128.1).bind fun t136 => (if t136 = true then ((footwaylaw13_alive.f k).bind fun t137 => (footwaylaw13_RelayNever.j0 k t121 a1 a2 a3 bt124.1 bt128.1 (!t137))) else (footwaylaw13_RelayNever.j0 k t121 a1 a2 a3 bt124.1 bt128.1 true))) else ((footwaylaw13_alive.f k).bind fun t138 => (footwaylaw13_RelayNever.j0 k t121 a1 a2 a3 bt124.1 bt128.1 (!t138))))))) else (footwaylaw13_RelayNever.j0 k t121 a1 a2 a3 bt124.1 bt128.1 true)) else ((footwaylaw13_alive.f k).bind fun t132 => (if t132 = true then (some ((bt128.1.length : Int) == 0)) else (some false))))))) = some r := h
  clear h
  replace H := Option.bind_eq_some_iff.mp H
  obtain ⟨t121, A50, H⟩ := H
  replace H : ((relay_Flood.f t121 a1).bind fun bt124 => ((relay_Egress.f t121 a1 a2 a3).bind fun bt128 => (if bt128.2 = 0 then (if bt124.2 = 0 then (if a1 < 0 then (footwaylaw13_RelayNever.j0 k t121 a1 a2 a3 bt124.1 bt128.1 true) else (if a1 ≥ (t121.length : Int) then (footwaylaw13_RelayNever.j0 k t121 a1 a2 a3 bt124.1 bt128.1 true) else (if a2 = 2 then (if (bt128.1.length : Int) = 0 then (if a2 = 1 then ((footwayref06_Same.f k bt124.1 bt128.1).bind fun t133 => (if t133 = true then ((footwaylaw13_alive.f k).bind fun t134 => (footwaylaw13_RelayNever.j0 k t121 a1 a2 a3 bt124.1 bt128.1 (!t134))) else (footwaylaw13_RelayNever.j0 k t121 a1 a2 a3 bt124.1 bt128.1 true))) else ((footwaylaw13_alive.f k).bind fun t135 => (footwaylaw13_RelayNever.j0 k t121 a1 a2 a3 bt124.1 bt128.1 (!t135)))) else (footwaylaw13_RelayNever.j0 k t121 a1 a2 a3 bt124.1 bt128.1 true)) else (if a2 = 1 then ((footwayref06_Same.f k bt124.1 bt128.1).bind fun t136 => (if t136 = true then ((footwaylaw13_alive.f k).bind fun t137 => (footwaylaw13_RelayNever.j0 k t121 a1 a2 a3 bt124.1 bt128.1 (!t137))) else (footwaylaw13_RelayNever.j0 k t121 a1 a2 a3 bt124.1 bt128.1 true))) else ((footwaylaw13_alive.f k).bind fun t138 => (footwaylaw13_RelayNever.j0 k t121 a1 a2 a3 bt124.1 bt128.1 (!t138))))))) else (footwaylaw13_RelayNever.j0 k t121 a1 a2 a3 bt124.1 bt128.1 true)) else ((footwaylaw13_alive.f k).bind fun t132 => (if t132 = true then (some ((bt128.1.length : Int) == 0)) else (some false)))))) = some r := H
  have A5 := Aside0.mk A50
  clear A50
  replace H := Option.bind_eq_some_iff.mp H
  obtain ⟨⟨t124, t125⟩, A60, H⟩ := H
  replace H : ((relay_Egress.f t121 a1 a2 a3).bind fun bt128 => (if bt128.2 = 0 then (if t125 = 0 then (if a1 < 0 then (footwaylaw13_RelayNever.j0 k t121 a1 a2 a3 t124 bt128.1 true) else (if a1 ≥ (t121.length : Int) then (footwaylaw13_RelayNever.j0 k t121 a1 a2 a3 t124 bt128.1 true) else (if a2 = 2 then (if (bt128.1.length : Int) = 0 then (if a2 = 1 then ((footwayref06_Same.f k t124 bt128.1).bind fun t133 => (if t133 = true then ((footwaylaw13_alive.f k).bind fun t134 => (footwaylaw13_RelayNever.j0 k t121 a1 a2 a3 t124 bt128.1 (!t134))) else (footwaylaw13_RelayNever.j0 k t121 a1 a2 a3 t124 bt128.1 true))) else ((footwaylaw13_alive.f k).bind fun t135 => (footwaylaw13_RelayNever.j0 k t121 a1 a2 a3 t124 bt128.1 (!t135)))) else (footwaylaw13_RelayNever.j0 k t121 a1 a2 a3 t124 bt128.1 true)) else (if a2 = 1 then ((footwayref06_Same.f k t124 bt128.1).bind fun t136 => (if t136 = true then ((footwaylaw13_alive.f k).bind fun t137 => (footwaylaw13_RelayNever.j0 k t121 a1 a2 a3 t124 bt128.1 (!t137))) else (footwaylaw13_RelayNever.j0 k t121 a1 a2 a3 t124 bt128.1 true))) else ((footwaylaw13_alive.f k).bind fun t138 => (footwaylaw13_RelayNever.j0 k t121 a1 a2 a3 t124 bt128.1 (!t138))))))) else (footwaylaw13_RelayNever.j0 k t121 a1 a2 a3 t124 bt128.1 true)) else ((footwaylaw13_alive.f k).bind fun t132 => (if t132 = true then (some ((bt128.1.length : Int) == 0)) else (some false))))) = some r := H
  have A6 := Aside0.mk A60
  clear A60
  replace H := Option.bind_eq_some_iff.mp H
  obtain ⟨⟨t128, t129⟩, A70, H⟩ := H
  replace H : (if t129 = 0 then (if t125 = 0 then (if a1 < 0 then (footwaylaw13_RelayNever.j0 k t121 a1 a2 a3 t124 t128 true) else (if a1 ≥ (t121.length : Int) then (footwaylaw13_RelayNever.j0 k t121 a1 a2 a3 t124 t128 true) else (if a2 = 2 then (if (t128.length : Int) = 0 then (if a2 = 1 then ((footwayref06_Same.f k t124 t128).bind fun t133 => (if t133 = true then ((footwaylaw13_alive.f k).bind fun t134 => (footwaylaw13_RelayNever.j0 k t121 a1 a2 a3 t124 t128 (!t134))) else (footwaylaw13_RelayNever.j0 k t121 a1 a2 a3 t124 t128 true))) else ((footwaylaw13_alive.f k).bind fun t135 => (footwaylaw13_RelayNever.j0 k t121 a1 a2 a3 t124 t128 (!t135)))) else (footwaylaw13_RelayNever.j0 k t121 a1 a2 a3 t124 t128 true)) else (if a2 = 1 then ((footwayref06_Same.f k t124 t128).bind fun t136 => (if t136 = true then ((footwaylaw13_alive.f k).bind fun t137 => (footwaylaw13_RelayNever.j0 k t121 a1 a2 a3 t124 t128 (!t137))) else (footwaylaw13_RelayNever.j0 k t121 a1 a2 a3 t124 t128 true))) else ((footwaylaw13_alive.f k).bind fun t138 => (footwaylaw13_RelayNever.j0 k t121 a1 a2 a3 t124 t128 (!t138))))))) else (footwaylaw13_RelayNever.j0 k t121 a1 a2 a3 t124 t128 true)) else ((footwaylaw13_alive.f k).bind fun t132 => (if t132 = true then (some ((t128.length : Int) == 0)) else (some false)))) = some r := H
  have A7 := Aside0.mk A70
  clear A70
  by_cases c8 : t129 = 0
  · rw [if_pos c8] at H
    have c8b0 : (t129 == 0) = true := beq_iff_eq.mpr c8
    have c8b1 : (t129 != 0) = false := bne_eq_false_iff_eq.mpr c8
    clear c8
    have HC9 := Aside0.mk H
    clear H
    go_enter Try.func7, Try.ntmps7
    go_upto_region 6 with (first | ((with_reducible refine gate_callee (f := 32) rfl ?_); refine goesL_ (some 16) rfl rfl Try.func32 (by kernel_rfl) rfl #[.slice A0 l0.length c0] rfl (by (try simp only [List.map_toArray, List.map_cons, List.map_nil]); first | done | rfl | (simp only [List.length_drop, List.length_take]; rfl)) ?_; (with_reducible refine (footwaylaw13_few.calls (fun k_ => k_ < w.heap.size) _ _ l0 t121 _ ?side1 A5.out).mono ?_); (case side1 => exact Kd.V_mk HC0.out (Kd.F_below (Kd.C_F k60_heap HR0.out) (by repeat (first | (with_reducible first | exact HB.out | apply below_alloc | apply pw_below_drewN | apply below_drew1) | exact HB.out)))); rintro e w10 ⟨v122, rfl, ho0, hb⟩; refine ⟨_, rfl, ?_⟩; have n0_ := Aside0.mk (Kd.V_lower (Kd.V_mono (ok' := fun k_ => True) ho0 (fun k_ hk_ => trivial)) (below_size (by repeat (first | (with_reducible first | exact HB.out | apply below_alloc | apply pw_below_drewN | apply below_drew1) | exact HB.out)))); have n1_ := Aside0.mk (below_step (by repeat (first | (with_reducible first | exact HB.out | apply below_alloc | apply pw_below_drewN | apply below_drew1) | exact HB.out)) hb); clear HB; have HO123 := n0_; have HB := n1_; clear n0_ n1_; (try clear hb); (try clear hb2); (try clear hk); (try clear hi); (try clear ho0); obtain ⟨Ao11, co11, eo11⟩ := Kd.V_slice HO123.out; subst eo11) | ((with_reducible refine gate_callee (f := 33) rfl ?_); refine goesL_ (some 20) rfl rfl Try.func33 (by kernel_rfl) rfl #[.slice Ao11 t121.length co11, .int .i64 a1] rfl (by (try simp only [List.map_toArray, List.map_cons, List.map_nil]); first | done | rfl | (simp only [List.length_drop, List.length_take]; rfl)) ?_; (with_reducible refine (relay_Flood.calls _ _ t121 a1 t124 t125 _ ?side1 ?side2 A6.out).mono ?_); (case side1 => repeat (first | exact (Kd.V_reads' HO123.out).2.2 | (with_reducible refine Kd.C_alloc ?_ _) | (with_reducible refine Kd.C_drewN ?_ _) | (with_reducible refine Kd.C_drew ?_))); (case side2 => exact (Kd.V_reads' HO123.out).2.1); rintro e w12 ⟨v126, rfl, ho0, hb⟩; refine ⟨_, rfl, ?_⟩; have n0_ := Aside0.mk (Kd.V_elder' (by (with_reducible repeat (first | apply Kd.V_alloc | apply Kd.V_drewN | apply Kd.V_drew)); exact HO123.out) (Kd.R_base ho0) hb); have n1_ := Aside0.mk (Kd.R_lower ho0 (below_size (by repeat (first | (with_reducible first | exact HB.out | apply below_alloc | apply pw_below_drewN | apply below_drew1) | exact HB.out)))); have n2_ := Aside0.mk (below_step (by repeat (first | (with_reducible first | exact HB.out | apply below_alloc | apply pw_below_drewN | apply below_drew1) | exact HB.out)) hb); clear HO123; clear HB; have HO123 := n0_; have HO127 := n1_; have HB := n2_; clear n0_ n1_ n2_; (try clear hb); (try clear hb2); (try clear hk); (try clear hi); (try clear ho0)) | ((with_reducible refine gate_callee (f := 34) rfl ?_); refine goesL_ (some 28) rfl rfl Try.func34 (by kernel_rfl) rfl #[.slice Ao11 t121.length co11, .int .i64 a1, .int .i64 a2, .int .i64 a3] rfl (by (try simp only [List.map_toArray, List.map_cons, List.map_nil]); first | done | rfl | (simp only [List.length_drop, List.length_take]; rfl)) ?_; (with_reducible refine (relay_Egress.calls _ _ t121 a1 a2 a3 t128 t129 _ ?side1 ?side2 A7.out).mono ?_); (case side1 => repeat (first | exact (Kd.V_reads' HO123.out).2.2 | (with_reducible refine Kd.C_alloc ?_ _) | (with_reducible refine Kd.C_drewN ?_ _) | (with_reducible refine Kd.C_drew ?_))); (case side2 => exact (Kd.V_reads' HO123.out).2.1); rintro e w13 ⟨v130, rfl, ho0, hb⟩; refine ⟨_, rfl, ?_⟩; have n0_ := Aside0.mk (Kd.V_elder' (by (with_reducible repeat (first | apply Kd.V_alloc | apply Kd.V_drewN | apply Kd.V_drew)); exact HO123.out) (Kd.R_base ho0) hb); have n1_ := Aside0.mk (Kd.R_elder' (by (with_reducible repeat (first | apply Kd.R_alloc | apply Kd.R_drewN | apply Kd.R_drew)); exact HO127.out) (Kd.R_base ho0) hb); have n2_ := Aside0.mk (Kd.R_lower (Kd.R_new' ho0 (Kd.R_lt (by (with_reducible repeat (first | apply Kd.R_alloc | apply Kd.R_drewN | apply Kd.R_drew)); exact HO127.out))) (below_size (by repeat (first | (with_reducible first | exact HB.out | apply below_alloc | apply pw_below_drewN | apply below_drew1) | exact HB.out)))); have n3_ := Aside0.mk (below_step (by repeat (first | (with_reducible first | exact HB.out | apply below_alloc | apply pw_below_drewN | apply below_drew1) | exact HB.out)) hb); clear HO123; clear HO127; clear HB; have HO123 := n0_; have HO127 := n1_; have HO131 := n2_; have HB := n3_; clear n0_ n1_ n2_ n3_; (try clear hb); (try clear hb2); (try clear hk); (try clear hi); (try clear ho0)))
    (try simp only [Act.put, List.setIfInBounds_toArray, List.set_cons_zero, List.set_cons_succ])
    go_cut [73] (fun v73 wc => ∃ (kq : Nat) (x73_8 : Bool), v73 = .bool x73_8 ∧ Aside0 (footwaylaw13_RelayNever.j0 kq t121 a1 a2 a3 t124 t128 x73_8 = some r) ∧ Aside0 (kq ≤ k) ∧ Aside0 (Kd.V k60 60 wc w.heap.size (fun k_ => some k_ ≠ (v126 : Value).ownBlock ∧ some k_ ≠ (v130 : Value).ownBlock) (.slice Ao11 t121.length co11) t121) ∧ Aside0 (Kd.R (Kd.int .i64) 3 wc w.heap.size (fun k_ => some k_ ≠ (v130 : Value).ownBlock) v126 t124) ∧ Aside0 (Kd.R (Kd.int .i64) 3 wc w.heap.size (fun k_ => some k_ ≠ (v126 : Value).ownBlock) v130 t128) ∧ Aside0 (Below w.heap.size w wc))
    case first =>
      have H := HC9.out
      clear HC9
      by_cases c14 : t125 = 0
      · rw [if_pos c14] at H
        have c14b0 : (t125 == 0) = true := beq_iff_eq.mpr c14
        have c14b1 : (t125 != 0) = false := bne_eq_false_iff_eq.mpr c14
        clear c14
        (first | rw [c14b0] | (simp only [i64_w, i32_w]; rw [c14b0]) | skip)
        by_cases c15 : a1 < 0
        · rw [if_pos c15] at H
          have c15b0 : decide (a1 < 0) = true := decide_eq_true c15
          clear c15
          have H' := Aside0.mk H
          clear H
          go_wp2
          go_meet
          case rel => exact ⟨_, (true), (by first | rfl | (simp; done) | (simp [*]; done)), H', ⟨by first | omega | exact Nat.le_refl _⟩, ⟨by (with_reducible repeat (first | apply Kd.V_alloc | apply Kd.V_drewN | apply Kd.V_drew)); exact Kd.V_mono HO123.out (fun _ hk => ⟨hk.1.2, hk.2⟩)⟩, ⟨by (with_reducible repeat (first | apply Kd.R_alloc | apply Kd.R_drewN | apply Kd.R_drew)); exact Kd.R_mono HO127.out (fun _ hk => hk.2)⟩, ⟨by (with_reducible repeat (first | apply Kd.R_alloc | apply Kd.R_drewN | apply Kd.R_drew)); exact Kd.R_mono HO131.out (fun _ hk => hk.2)⟩, ⟨by repeat (first | (with_reducible first | exact HB.out | apply below_alloc | apply pw_below_drewN | apply below_drew1) | exact HB.out)⟩⟩
        · rw [if_neg c15] at H
          have c15b0 : decide (a1 < 0) = false := decide_eq_false c15
          clear c15
          by_cases c16 : a1 ≥ (t121.length : Int)
          · rw [if_pos c16] at H
            have c16b0 : decide ((t121.length : Int) ≤ a1) = true := decide_eq_true c16
            clear c16
            have H' := Aside0.mk H
            clear H
            go_wp2
            go_meet
            case rel => exact ⟨_, (true), (by first | rfl | (simp; done) | (simp [*]; done)), H', ⟨by first | omega | exact Nat.le_refl _⟩, ⟨by (with_reducible repeat (first | apply Kd.V_alloc | apply Kd.V_drewN | apply Kd.V_drew)); exact Kd.V_mono HO123.out (fun _ hk => ⟨hk.1.2, hk.2⟩)⟩, ⟨by (with_reducible repeat (first | apply Kd.R_alloc | apply Kd.R_drewN | apply Kd.R_drew)); exact Kd.R_mono HO127.out (fun _ hk => hk.2)⟩, ⟨by (with_reducible repeat (first | apply Kd.R_alloc | apply Kd.R_drewN | apply Kd.R_drew)); exact Kd.R_mono HO131.out (fun _ hk => hk.2)⟩, ⟨by repeat (first | (with_reducible first | exact HB.out | apply below_alloc | apply pw_below_drewN | apply below_drew1) | exact HB.out)⟩⟩
          · rw [if_neg c16] at H
            have c16b0 : decide ((t121.length : Int) ≤ a1) = false := decide_eq_false c16
            clear c16
            by_cases c17 : a2 = 2
            · rw [if_pos c17] at H
              have c17b0 : (a2 == 2) = true := beq_iff_eq.mpr c17
              have c17b1 : (a2 != 2) = false := bne_eq_false_iff_eq.mpr c17
              clear c17
              by_cases c18 : (t128.length : Int) = 0
              · rw [if_pos c18] at H
                have c18b0 : ((t128.length : Int) == 0) = true := beq_iff_eq.mpr c18
                have c18b1 : ((t128.length : Int) != 0) = false := bne_eq_false_iff_eq.mpr c18
                clear c18
                by_cases c19 : a2 = 1
                · rw [if_pos c19] at H
                  have c19b0 : (a2 == 1) = true := beq_iff_eq.mpr c19
                  have c19b1 : (a2 != 1) = false := bne_eq_false_iff_eq.mpr c19
                  clear c19
                  replace H := Option.bind_eq_some_iff.mp H
                  obtain ⟨t133, A200, H⟩ := H
                  replace H : (if t133 = true then ((footwaylaw13_alive.f k).bind fun t134 => (footwaylaw13_RelayNever.j0 k t121 a1 a2 a3 t124 t128 (!t134))) else (footwaylaw13_RelayNever.j0 k t121 a1 a2 a3 t124 t128 true)) = some r := H
                  have A20 := Aside0.mk A200
                  clear A200
                  by_cases c21 : t133 = true
                  · subst c21
                    have H1 : ((footwaylaw13_alive.f k).bind fun t134 => (footwaylaw13_RelayNever.j0 k t121 a1 a2 a3 t124 t128 (!t134))) = some r := by rw [if_pos rfl] at H; exact H
                    clear H
                    have H := H1
                    clear H1
                    replace H := Option.bind_eq_some_iff.mp H
                    obtain ⟨t134, A220, H⟩ := H
                    replace H : (footwaylaw13_RelayNever.j0 k t121 a1 a2 a3 t124 t128 (!t134)) = some r := H
                    have A22 := Aside0.mk A220
                    clear A220
                    have H' := Aside0.mk H
                    clear H
                    obtain ⟨Ao23, co23, eo23⟩ := Kd.R_slice HO131.out
                    subst eo23
                    obtain ⟨Ao24, co24, eo24⟩ := Kd.R_slice HO127.out
                    subst eo24
                    go_wp2_with (first | (go_at_call 16; (with_reducible refine (footwayref06_Same.calls k _ _ t124 _ _ t128 true _ ?side1 ?side2 ?side3 ?side4 A20.out).mono ?_); (case side1 => repeat (first | exact (Kd.R_reads' HO127.out).2.2 | (with_reducible refine Kd.C_alloc ?_ _) | (with_reducible refine Kd.C_drewN ?_ _) | (with_reducible refine Kd.C_drew ?_))); (case side2 => exact (Kd.R_reads' HO127.out).2.1); (case side3 => repeat (first | exact (Kd.R_reads' HO131.out).2.2 | (with_reducible refine Kd.C_alloc ?_ _) | (with_reducible refine Kd.C_drewN ?_ _) | (with_reducible refine Kd.C_drew ?_))); (case side4 => exact (Kd.R_reads' HO131.out).2.1); rintro e w' ⟨rfl, ⟨nd, rfl⟩⟩) | (go_at_call 35; (with_reducible refine (footwaylaw13_alive.calls k  t134 _ A22.out).mono ?_); rintro e w25 ⟨rfl, hb⟩; have n0_ := Aside0.mk (Kd.V_below (by (with_reducible repeat (first | apply Kd.V_alloc | apply Kd.V_drewN | apply Kd.V_drew)); exact HO123.out) hb); have n1_ := Aside0.mk (Kd.R_below (by (with_reducible repeat (first | apply Kd.R_alloc | apply Kd.R_drewN | apply Kd.R_drew)); exact HO127.out) hb); have n2_ := Aside0.mk (Kd.R_below (by (with_reducible repeat (first | apply Kd.R_alloc | apply Kd.R_drewN | apply Kd.R_drew)); exact HO131.out) hb); have n3_ := Aside0.mk (below_step (by repeat (first | (with_reducible first | exact HB.out | apply below_alloc | apply pw_below_drewN | apply below_drew1) | exact HB.out)) hb); clear HO123; clear HO127; clear HO131; clear HB; have HO123 := n0_; have HO127 := n1_; have HO131 := n2_; have HB := n3_; clear n0_ n1_ n2_ n3_; (try clear hb); (try clear hb2); (try clear hk); (try clear hi)))
                    go_meet
                    case rel => exact ⟨_, (!t134), (by first | rfl | (simp; done) | (simp [*]; done)), H', ⟨by first | omega | exact Nat.le_refl _⟩, ⟨by (with_reducible repeat (first | apply Kd.V_alloc | apply Kd.V_drewN | apply Kd.V_drew)); exact Kd.V_mono HO123.out (fun _ hk => ⟨hk.1.2, hk.2⟩)⟩, ⟨by (with_reducible repeat (first | apply Kd.R_alloc | apply Kd.R_drewN | apply Kd.R_drew)); exact Kd.R_mono HO127.out (fun _ hk => hk.2)⟩, ⟨by (with_reducible repeat (first | apply Kd.R_alloc | apply Kd.R_drewN | apply Kd.R_drew)); exact Kd.R_mono HO131.out (fun _ hk => hk.2)⟩, ⟨by repeat (first | (with_reducible first | exact HB.out | apply below_alloc | apply pw_below_drewN | apply below_drew1) | exact HB.out)⟩⟩
                  · replace c21 := Bool.eq_false_iff.mpr c21
                    subst c21
                    have H1 : (footwaylaw13_RelayNever.j0 k t121 a1 a2 a3 t124 t128 true) = some r := by rw [if_neg (show ¬ (false = true) by decide)] at H; exact H
                    clear H
                    have H := H1
                    clear H1
                    have H' := Aside0.mk H
                    clear H
                    obtain ⟨Ao26, co26, eo26⟩ := Kd.R_slice HO131.out
                    subst eo26
                    obtain ⟨Ao27, co27, eo27⟩ := Kd.R_slice HO127.out
                    subst eo27
                    go_wp2_with (first | (go_at_call 16; (with_reducible refine (footwayref06_Same.calls k _ _ t124 _ _ t128 false _ ?side1 ?side2 ?side3 ?side4 A20.out).mono ?_); (case side1 => repeat (first | exact (Kd.R_reads' HO127.out).2.2 | (with_reducible refine Kd.C_alloc ?_ _) | (with_reducible refine Kd.C_drewN ?_ _) | (with_reducible refine Kd.C_drew ?_))); (case side2 => exact (Kd.R_reads' HO127.out).2.1); (case side3 => repeat (first | exact (Kd.R_reads' HO131.out).2.2 | (with_reducible refine Kd.C_alloc ?_ _) | (with_reducible refine Kd.C_drewN ?_ _) | (with_reducible refine Kd.C_drew ?_))); (case side4 => exact (Kd.R_reads' HO131.out).2.1); rintro e w' ⟨rfl, ⟨nd, rfl⟩⟩))
                    go_meet
                    case rel => exact ⟨_, (true), (by first | rfl | (simp; done) | (simp [*]; done)), H', ⟨by first | omega | exact Nat.le_refl _⟩, ⟨by (with_reducible repeat (first | apply Kd.V_alloc | apply Kd.V_drewN | apply Kd.V_drew)); exact Kd.V_mono HO123.out (fun _ hk => ⟨hk.1.2, hk.2⟩)⟩, ⟨by (with_reducible repeat (first | apply Kd.R_alloc | apply Kd.R_drewN | apply Kd.R_drew)); exact Kd.R_mono HO127.out (fun _ hk => hk.2)⟩, ⟨by (with_reducible repeat (first | apply Kd.R_alloc | apply Kd.R_drewN | apply Kd.R_drew)); exact Kd.R_mono HO131.out (fun _ hk => hk.2)⟩, ⟨by repeat (first | (with_reducible first | exact HB.out | apply below_alloc | apply pw_below_drewN | apply below_drew1) | exact HB.out)⟩⟩
                · rw [if_neg c19] at H
                  have c19b0 : (a2 == 1) = false := beq_eq_false_iff_ne.mpr c19
                  have c19b1 : (a2 != 1) = true := bne_iff_ne.mpr c19
                  replace H := Option.bind_eq_some_iff.mp H
                  obtain ⟨t135, A280, H⟩ := H
                  replace H : (footwaylaw13_RelayNever.j0 k t121 a1 a2 a3 t124 t128 (!t135)) = some r := H
                  have A28 := Aside0.mk A280
                  clear A280
                  have H' := Aside0.mk H
                  clear H
                  obtain ⟨Ao29, co29, eo29⟩ := Kd.R_slice HO131.out
                  subst eo29
                  go_wp2_with (first | (go_at_call 35; (with_reducible refine (footwaylaw13_alive.calls k  t135 _ A28.out).mono ?_); rintro e w30 ⟨rfl, hb⟩; have n0_ := Aside0.mk (Kd.V_below (by (with_reducible repeat (first | apply Kd.V_alloc | apply Kd.V_drewN | apply Kd.V_drew)); exact HO123.out) hb); have n1_ := Aside0.mk (Kd.R_below (by (with_reducible repeat (first | apply Kd.R_alloc | apply Kd.R_drewN | apply Kd.R_drew)); exact HO127.out) hb); have n2_ := Aside0.mk (Kd.R_below (by (with_reducible repeat (first | apply Kd.R_alloc | apply Kd.R_drewN | apply Kd.R_drew)); exact HO131.out) hb); have n3_ := Aside0.mk (below_step (by repeat (first | (with_reducible first | exact HB.out | apply below_alloc | apply pw_below_drewN | apply below_drew1) | exact HB.out)) hb); clear HO123; clear HO127; clear HO131; clear HB; have HO123 := n0_; have HO127 := n1_; have HO131 := n2_; have HB := n3_; clear n0_ n1_ n2_ n3_; (try clear hb); (try clear hb2); (try clear hk); (try clear hi)))
                  go_meet
                  case rel => exact ⟨_, (!t135), (by first | rfl | (simp; done) | (simp [*]; done)), H', ⟨by first | omega | exact Nat.le_refl _⟩, ⟨by (with_reducible repeat (first | apply Kd.V_alloc | apply Kd.V_drewN | apply Kd.V_drew)); exact Kd.V_mono HO123.out (fun _ hk => ⟨hk.1.2, hk.2⟩)⟩, ⟨by (with_reducible repeat (first | apply Kd.R_alloc | apply Kd.R_drewN | apply Kd.R_drew)); exact Kd.R_mono HO127.out (fun _ hk => hk.2)⟩, ⟨by (with_reducible repeat (first | apply Kd.R_alloc | apply Kd.R_drewN | apply Kd.R_drew)); exact Kd.R_mono HO131.out (fun _ hk => hk.2)⟩, ⟨by repeat (first | (with_reducible first | exact HB.out | apply below_alloc | apply pw_below_drewN | apply below_drew1) | exact HB.out)⟩⟩
              · rw [if_neg c18] at H
                have c18b0 : ((t128.length : Int) == 0) = false := beq_eq_false_iff_ne.mpr c18
                have c18b1 : ((t128.length : Int) != 0) = true := bne_iff_ne.mpr c18
                have c18b2 : ¬ (t128 = []) := fun h_ => c18 (by rw [h_]; rfl)
                have H' := Aside0.mk H
                clear H
                obtain ⟨Ao31, co31, eo31⟩ := Kd.R_slice HO131.out
                subst eo31
                go_wp2
                go_meet
                case rel => exact ⟨_, (true), (by first | rfl | (simp; done) | (simp [*]; done)), H', ⟨by first | omega | exact Nat.le_refl _⟩, ⟨by (with_reducible repeat (first | apply Kd.V_alloc | apply Kd.V_drewN | apply Kd.V_drew)); exact Kd.V_mono HO123.out (fun _ hk => ⟨hk.1.2, hk.2⟩)⟩, ⟨by (with_reducible repeat (first | apply Kd.R_alloc | apply Kd.R_drewN | apply Kd.R_drew)); exact Kd.R_mono HO127.out (fun _ hk => hk.2)⟩, ⟨by (with_reducible repeat (first | apply Kd.R_alloc | apply Kd.R_drewN | apply Kd.R_drew)); exact Kd.R_mono HO131.out (fun _ hk => hk.2)⟩, ⟨by repeat (first | (with_reducible first | exact HB.out | apply below_alloc | apply pw_below_drewN | apply below_drew1) | exact HB.out)⟩⟩
            · rw [if_neg c17] at H
              have c17b0 : (a2 == 2) = false := beq_eq_false_iff_ne.mpr c17
              have c17b1 : (a2 != 2) = true := bne_iff_ne.mpr c17
              by_cases c32 : a2 = 1
              · rw [if_pos c32] at H
                have c32b0 : (a2 == 1) = true := beq_iff_eq.mpr c32
                have c32b1 : (a2 != 1) = false := bne_eq_false_iff_eq.mpr c32
                clear c32
                replace H := Option.bind_eq_some_iff.mp H
                obtain ⟨t136, A330, H⟩ := H
                replace H : (if t136 = true then ((footwaylaw13_alive.f k).bind fun t137 => (footwaylaw13_RelayNever.j0 k t121 a1 a2 a3 t124 t128 (!t137))) else (footwaylaw13_RelayNever.j0 k t121 a1 a2 a3 t124 t128 true)) = some r := H
                have A33 := Aside0.mk A330
                clear A330
                by_cases c34 : t136 = true
                · subst c34
                  have H1 : ((footwaylaw13_alive.f k).bind fun t137 => (footwaylaw13_RelayNever.j0 k t121 a1 a2 a3 t124 t128 (!t137))) = some r := by rw [if_pos rfl] at H; exact H
                  clear H
                  have H := H1
                  clear H1
                  replace H := Option.bind_eq_some_iff.mp H
                  obtain ⟨t137, A350, H⟩ := H
                  replace H : (footwaylaw13_RelayNever.j0 k t121 a1 a2 a3 t124 t128 (!t137)) = some r := H
                  have A35 := Aside0.mk A350
                  clear A350
                  have H' := Aside0.mk H
                  clear H
                  obtain ⟨Ao36, co36, eo36⟩ := Kd.R_slice HO127.out
                  subst eo36
                  obtain ⟨Ao37, co37, eo37⟩ := Kd.R_slice HO131.out
                  subst eo37
                  go_wp2_with (first | (go_at_call 16; (with_reducible refine (footwayref06_Same.calls k _ _ t124 _ _ t128 true _ ?side1 ?side2 ?side3 ?side4 A33.out).mono ?_); (case side1 => repeat (first | exact (Kd.R_reads' HO127.out).2.2 | (with_reducible refine Kd.C_alloc ?_ _) | (with_reducible refine Kd.C_drewN ?_ _) | (with_reducible refine Kd.C_drew ?_))); (case side2 => exact (Kd.R_reads' HO127.out).2.1); (case side3 => repeat (first | exact (Kd.R_reads' HO131.out).2.2 | (with_reducible refine Kd.C_alloc ?_ _) | (with_reducible refine Kd.C_drewN ?_ _) | (with_reducible refine Kd.C_drew ?_))); (case side4 => exact (Kd.R_reads' HO131.out).2.1); rintro e w' ⟨rfl, ⟨nd, rfl⟩⟩) | (go_at_call 35; (with_reducible refine (footwaylaw13_alive.calls k  t137 _ A35.out).mono ?_); rintro e w38 ⟨rfl, hb⟩; have n0_ := Aside0.mk (Kd.V_below (by (with_reducible repeat (first | apply Kd.V_alloc | apply Kd.V_drewN | apply Kd.V_drew)); exact HO123.out) hb); have n1_ := Aside0.mk (Kd.R_below (by (with_reducible repeat (first | apply Kd.R_alloc | apply Kd.R_drewN | apply Kd.R_drew)); exact HO127.out) hb); have n2_ := Aside0.mk (Kd.R_below (by (with_reducible repeat (first | apply Kd.R_alloc | apply Kd.R_drewN | apply Kd.R_drew)); exact HO131.out) hb); have n3_ := Aside0.mk (below_step (by repeat (first | (with_reducible first | exact HB.out | apply below_alloc | apply pw_below_drewN | apply below_drew1) | exact HB.out)) hb); clear HO123; clear HO127; clear HO131; clear HB; have HO123 := n0_; have HO127 := n1_; have HO131 := n2_; have HB := n3_; clear n0_ n1_ n2_ n3_; (try clear hb); (try clear hb2); (try clear hk); (try clear hi)))
                  go_meet
                  case rel => exact ⟨_, (!t137), (by first | rfl | (simp; done) | (simp [*]; done)), H', ⟨by first | omega | exact Nat.le_refl _⟩, ⟨by (with_reducible repeat (first | apply Kd.V_alloc | apply Kd.V_drewN | apply Kd.V_drew)); exact Kd.V_mono HO123.out (fun _ hk => ⟨hk.1.2, hk.2⟩)⟩, ⟨by (with_reducible repeat (first | apply Kd.R_alloc | apply Kd.R_drewN | apply Kd.R_drew)); exact Kd.R_mono HO127.out (fun _ hk => hk.2)⟩, ⟨by (with_reducible repeat (first | apply Kd.R_alloc | apply Kd.R_drewN | apply Kd.R_drew)); exact Kd.R_mono HO131.out (fun _ hk => hk.2)⟩, ⟨by repeat (first | (with_reducible first | exact HB.out | apply below_alloc | apply pw_below_drewN | apply below_drew1) | exact HB.out)⟩⟩
                · replace c34 := Bool.eq_false_iff.mpr c34
                  subst c34
                  have H1 : (footwaylaw13_RelayNever.j0 k t121 a1 a2 a3 t124 t128 true) = some r := by rw [if_neg (show ¬ (false = true) by decide)] at H; exact H
                  clear H
                  have H := H1
                  clear H1
                  have H' := Aside0.mk H
                  clear H
                  obtain ⟨Ao39, co39, eo39⟩ := Kd.R_slice HO127.out
                  subst eo39
                  obtain ⟨Ao40, co40, eo40⟩ := Kd.R_slice HO131.out
                  subst eo40
                  go_wp2_with (first | (go_at_call 16; (with_reducible refine (footwayref06_Same.calls k _ _ t124 _ _ t128 false _ ?side1 ?side2 ?side3 ?side4 A33.out).mono ?_); (case side1 => repeat (first | exact (Kd.R_reads' HO127.out).2.2 | (with_reducible refine Kd.C_alloc ?_ _) | (with_reducible refine Kd.C_drewN ?_ _) | (with_reducible refine Kd.C_drew ?_))); (case side2 => exact (Kd.R_reads' HO127.out).2.1); (case side3 => repeat (first | exact (Kd.R_reads' HO131.out).2.2 | (with_reducible refine Kd.C_alloc ?_ _) | (with_reducible refine Kd.C_drewN ?_ _) | (with_reducible refine Kd.C_drew ?_))); (case side4 => exact (Kd.R_reads' HO131.out).2.1); rintro e w' ⟨rfl, ⟨nd, rfl⟩⟩))
                  go_meet
                  case rel => exact ⟨_, (true), (by first | rfl | (simp; done) | (simp [*]; done)), H', ⟨by first | omega | exact Nat.le_refl _⟩, ⟨by (with_reducible repeat (first | apply Kd.V_alloc | apply Kd.V_drewN | apply Kd.V_drew)); exact Kd.V_mono HO123.out (fun _ hk => ⟨hk.1.2, hk.2⟩)⟩, ⟨by (with_reducible repeat (first | apply Kd.R_alloc | apply Kd.R_drewN | apply Kd.R_drew)); exact Kd.R_mono HO127.out (fun _ hk => hk.2)⟩, ⟨by (with_reducible repeat (first | apply Kd.R_alloc | apply Kd.R_drewN | apply Kd.R_drew)); exact Kd.R_mono HO131.out (fun _ hk => hk.2)⟩, ⟨by repeat (first | (with_reducible first | exact HB.out | apply below_alloc | apply pw_below_drewN | apply below_drew1) | exact HB.out)⟩⟩
              · rw [if_neg c32] at H
                have c32b0 : (a2 == 1) = false := beq_eq_false_iff_ne.mpr c32
                have c32b1 : (a2 != 1) = true := bne_iff_ne.mpr c32
                replace H := Option.bind_eq_some_iff.mp H
                obtain ⟨t138, A410, H⟩ := H
                replace H : (footwaylaw13_RelayNever.j0 k t121 a1 a2 a3 t124 t128 (!t138)) = some r := H
                have A41 := Aside0.mk A410
                clear A410
                have H' := Aside0.mk H
                clear H
                go_wp2_with (first | (go_at_call 35; (with_reducible refine (footwaylaw13_alive.calls k  t138 _ A41.out).mono ?_); rintro e w42 ⟨rfl, hb⟩; have n0_ := Aside0.mk (Kd.V_below (by (with_reducible repeat (first | apply Kd.V_alloc | apply Kd.V_drewN | apply Kd.V_drew)); exact HO123.out) hb); have n1_ := Aside0.mk (Kd.R_below (by (with_reducible repeat (first | apply Kd.R_alloc | apply Kd.R_drewN | apply Kd.R_drew)); exact HO127.out) hb); have n2_ := Aside0.mk (Kd.R_below (by (with_reducible repeat (first | apply Kd.R_alloc | apply Kd.R_drewN | apply Kd.R_drew)); exact HO131.out) hb); have n3_ := Aside0.mk (below_step (by repeat (first | (with_reducible first | exact HB.out | apply below_alloc | apply pw_below_drewN | apply below_drew1) | exact HB.out)) hb); clear HO123; clear HO127; clear HO131; clear HB; have HO123 := n0_; have HO127 := n1_; have HO131 := n2_; have HB := n3_; clear n0_ n1_ n2_ n3_; (try clear hb); (try clear hb2); (try clear hk); (try clear hi)))
                go_meet
                case rel => exact ⟨_, (!t138), (by first | rfl | (simp; done) | (simp [*]; done)), H', ⟨by first | omega | exact Nat.le_refl _⟩, ⟨by (with_reducible repeat (first | apply Kd.V_alloc | apply Kd.V_drewN | apply Kd.V_drew)); exact Kd.V_mono HO123.out (fun _ hk => ⟨hk.1.2, hk.2⟩)⟩, ⟨by (with_reducible repeat (first | apply Kd.R_alloc | apply Kd.R_drewN | apply Kd.R_drew)); exact Kd.R_mono HO127.out (fun _ hk => hk.2)⟩, ⟨by (with_reducible repeat (first | apply Kd.R_alloc | apply Kd.R_drewN | apply Kd.R_drew)); exact Kd.R_mono HO131.out (fun _ hk => hk.2)⟩, ⟨by repeat (first | (with_reducible first | exact HB.out | apply below_alloc | apply pw_below_drewN | apply below_drew1) | exact HB.out)⟩⟩
      · rw [if_neg c14] at H
        have c14b0 : (t125 == 0) = false := beq_eq_false_iff_ne.mpr c14
        have c14b1 : (t125 != 0) = true := bne_iff_ne.mpr c14
        (first | rw [c14b0] | (simp only [i64_w, i32_w]; rw [c14b0]) | skip)
        have H' := Aside0.mk H
        clear H
        go_wp2
        go_meet
        case rel => exact ⟨_, (true), (by first | rfl | (simp; done) | (simp [*]; done)), H', ⟨by first | omega | exact Nat.le_refl _⟩, ⟨by (with_reducible repeat (first | apply Kd.V_alloc | apply Kd.V_drewN | apply Kd.V_drew)); exact Kd.V_mono HO123.out (fun _ hk => ⟨hk.1.2, hk.2⟩)⟩, ⟨by (with_reducible repeat (first | apply Kd.R_alloc | apply Kd.R_drewN | apply Kd.R_drew)); exact Kd.R_mono HO127.out (fun _ hk => hk.2)⟩, ⟨by (with_reducible repeat (first | apply Kd.R_alloc | apply Kd.R_drewN | apply Kd.R_drew)); exact Kd.R_mono HO131.out (fun _ hk => hk.2)⟩, ⟨by repeat (first | (with_reducible first | exact HB.out | apply below_alloc | apply pw_below_drewN | apply below_drew1) | exact HB.out)⟩⟩
    case rest =>
      clear HC9
      try clear c1
      try clear c2
      try clear p2
      try clear c3
      try clear c7
      try clear c8
      try clear c8b0
      try clear c8b1
      try clear c14
      try clear c14b0
      try clear c14b1
      try clear c15
      try clear c15b0
      try clear c16
      try clear c16b0
      try clear c17
      try clear c17b0
      try clear c17b1
      try clear c18
      try clear c18b0
      try clear c18b1
      try clear c18b2
      try clear c19
      try clear c19b0
      try clear c19b1
      try clear c21
      try clear c32
      try clear c32b0
      try clear c32b1
      try clear c33
      try clear c34
      obtain ⟨kq, x73_8, rfl, HA, HJ8, HO_0, HO_9, HO_11, HB⟩ := hcut
      cases kq with
      | zero => exact absurd HA.out (by simp [footwaylaw13_RelayNever.j0])
      | succ kj8 =>
        have H := HA.out
        clear HA
        simp only [footwaylaw13_RelayNever.j0] at H
        by_cases c43 : x73_8 = true
        · subst c43
          have H1 : (some false) = some r := by rw [if_pos rfl] at H; exact H
          clear H
          have H := H1
          clear H1
          obtain rfl := Option.some.inj H
          go_wp2
          go_ret
          exact ⟨by first | rfl | (simp [errW_none, errW_some] <;> rfl) | (simp [*, errW_none, errW_some] <;> rfl), by repeat (first | (with_reducible first | exact HB.out | apply below_alloc | apply pw_below_drewN | apply below_drew1) | exact HB.out)⟩
        · replace c43 := Bool.eq_false_iff.mpr c43
          subst c43
          have H1 : (footwaylaw13_RelayNever.l0 kj8 t121 a1 a2 a3 t124 t128 t128 (t128.length : Int) 0) = some r := by rw [if_neg (show ¬ (false = true) by decide)] at H; exact H
          clear H
          have H := H1
          clear H1
          have H' := Aside0.mk H
          clear H
          obtain ⟨Ao44, co44, eo44⟩ := Kd.R_slice HO_11.out
          subst eo44
          go_wp2
          go_loopg [76] kj8 (fun kq v76 w' => ∃ (x76_2 : Int), v76 = .int .i64 x76_2 ∧ Aside0 (footwaylaw13_RelayNever.l0 kq t121 a1 a2 a3 t124 t128 t128 (t128.length : Int) x76_2 = some r) ∧ Aside0 (kq ≤ kj8) ∧ Aside0 (Kd.V k60 60 w' w.heap.size (fun k_ => some k_ ≠ (v126 : Value).ownBlock ∧ some k_ ≠ ((.slice Ao44 t128.length co44) : Value).ownBlock ∧ some k_ ≠ ((.slice Ao44 t128.length co44) : Value).ownBlock) (.slice Ao11 t121.length co11) t121) ∧ Aside0 (Kd.R (Kd.int .i64) 3 w' w.heap.size (fun k_ => some k_ ≠ ((.slice Ao44 t128.length co44) : Value).ownBlock ∧ some k_ ≠ ((.slice Ao44 t128.length co44) : Value).ownBlock) v126 t124) ∧ Aside0 (Kd.R (Kd.int .i64) 3 w' w.heap.size (fun k_ => some k_ ≠ (v126 : Value).ownBlock) (.slice Ao44 t128.length co44) t128) ∧ Aside0 (Kd.R (Kd.int .i64) 3 w' w.heap.size (fun k_ => some k_ ≠ (v126 : Value).ownBlock) (.slice Ao44 t128.length co44) t128) ∧ Aside0 (Below w.heap.size w w'))
          case atStart => exact ⟨(0), (by first | rfl | (simp; done) | (simp [*]; done)), H', ⟨Nat.le_refl _⟩, ⟨by (with_reducible repeat (first | apply Kd.V_alloc | apply Kd.V_drewN | apply Kd.V_drew)); exact Kd.V_mono HO_0.out (fun _ hk => ⟨hk.1, ⟨hk.2, hk.2⟩⟩)⟩, ⟨by (with_reducible repeat (first | apply Kd.R_alloc | apply Kd.R_drewN | apply Kd.R_drew)); exact Kd.R_mono HO_9.out (fun _ hk => ⟨hk, hk⟩)⟩, ⟨by (with_reducible repeat (first | apply Kd.R_alloc | apply Kd.R_drewN | apply Kd.R_drew)); exact HO_11.out⟩, ⟨by (with_reducible repeat (first | apply Kd.R_alloc | apply Kd.R_drewN | apply Kd.R_drew)); exact HO_11.out⟩, ⟨by repeat (first | (with_reducible first | exact HB.out | apply below_alloc | apply pw_below_drewN | apply below_drew1) | exact HB.out)⟩⟩
          case round =>
            clear H'
            try clear c1
            try clear c2
            try clear p2
            try clear c3
            try clear c4
            try clear c7
            try clear c8
            try clear c8b0
            try clear c8b1
            try clear c14
            try clear c14b0
            try clear c14b1
            try clear c15
            try clear c15b0
            try clear c16
            try clear c16b0
            try clear c17
            try clear c17b0
            try clear c17b1
            try clear c18
            try clear c18b0
            try clear c18b1
            try clear c18b2
            try clear c19
            try clear c19b0
            try clear c19b1
            try clear c21
            try clear c32
            try clear c32b0
            try clear c32b1
            try clear c33
            try clear c34
            try clear c43
            try clear p2
            obtain ⟨x76_2, rfl, HA, HK2, HO_0, HO_9, HO_11, HO_74, HB⟩ := hrel
            cases gk with
            | zero => exact absurd HA.out (by simp [footwaylaw13_RelayNever.l0])
            | succ k2 =>
              have H := HA.out
              clear HA
              simp only [footwaylaw13_RelayNever.l0] at H
              by_cases c45 : x76_2 < (t128.length : Int)
              · rw [if_pos c45] at H
                have c45b0 : decide (x76_2 < (t128.length : Int)) = true := decide_eq_true c45
                clear c45
                by_cases c46 : 0 ≤ x76_2
                · rw [if_pos c46] at H
                  have c46b0 : decide (0 ≤ x76_2) = true := decide_eq_true c46
                  clear c46
                  by_cases c47 : x76_2 < (t128.length : Int)
                  · rw [if_pos c47] at H
                    have c47b0 : decide (x76_2 < (t128.length : Int)) = true := decide_eq_true c47
                    clear c47
                    by_cases c48 : (rd t128 x76_2) < 0
                    · rw [if_pos c48] at H
                      have c48b0 : decide ((rd t128 x76_2) < 0) = true := decide_eq_true c48
                      clear c48
                      obtain rfl := Option.some.inj H
                      have p139 : 0 ≤ (x76_2 : Int) := of_decide_eq_true (by first | (with_reducible assumption) | assumption)
                      have q139 : x76_2 < (t128.length : Int) := of_decide_eq_true (by first | (with_reducible assumption) | assumption)
                      obtain ⟨ad139, e139, hx139_0⟩ := Kd.at_int (Kd.R_reads' HO_74.out).2.2 x76_2 p139 q139
                      cases e139
                      replace p139 := eq_true p139
                      replace q139 := eq_true q139
                      go_wp2
                      go_ret
                      exact ⟨by first | rfl | (simp [errW_none, errW_some] <;> rfl) | (simp [*, errW_none, errW_some] <;> rfl), by repeat (first | (with_reducible first | exact HB.out | apply below_alloc | apply pw_below_drewN | apply below_drew1) | exact HB.out)⟩
                    · rw [if_neg c48] at H
                      have c48b0 : decide ((rd t128 x76_2) < 0) = false := decide_eq_false c48
                      clear c48
                      by_cases c49 : (rd t128 x76_2) ≥ (t121.length : Int)
                      · rw [if_pos c49] at H
                        have c49b0 : decide ((t121.length : Int) ≤ (rd t128 x76_2)) = true := decide_eq_true c49
                        clear c49
                        obtain rfl := Option.some.inj H
                        have p139 : 0 ≤ (x76_2 : Int) := of_decide_eq_true (by first | (with_reducible assumption) | assumption)
                        have q139 : x76_2 < (t128.length : Int) := of_decide_eq_true (by first | (with_reducible assumption) | assumption)
                        obtain ⟨ad139, e139, hx139_0⟩ := Kd.at_int (Kd.R_reads' HO_74.out).2.2 x76_2 p139 q139
                        cases e139
                        replace p139 := eq_true p139
                        replace q139 := eq_true q139
                        go_wp2
                        go_ret
                        exact ⟨by first | rfl | (simp [errW_none, errW_some] <;> rfl) | (simp [*, errW_none, errW_some] <;> rfl), by repeat (first | (with_reducible first | exact HB.out | apply below_alloc | apply pw_below_drewN | apply below_drew1) | exact HB.out)⟩
                      · rw [if_neg c49] at H
                        have c49b0 : decide ((t121.length : Int) ≤ (rd t128 x76_2)) = false := decide_eq_false c49
                        clear c49
                        by_cases c50 : (rd t128 x76_2) = a1
                        · rw [if_pos c50] at H
                          have c50b0 : ((rd t128 x76_2) == a1) = true := beq_iff_eq.mpr c50
                          have c50b1 : ((rd t128 x76_2) != a1) = false := bne_eq_false_iff_eq.mpr c50
                          clear c50
                          obtain rfl := Option.some.inj H
                          have p139 : 0 ≤ (x76_2 : Int) := of_decide_eq_true (by first | (with_reducible assumption) | assumption)
                          have q139 : x76_2 < (t128.length : Int) := of_decide_eq_true (by first | (with_reducible assumption) | assumption)
                          obtain ⟨ad139, e139, hx139_0⟩ := Kd.at_int (Kd.R_reads' HO_74.out).2.2 x76_2 p139 q139
                          cases e139
                          replace p139 := eq_true p139
                          replace q139 := eq_true q139
                          go_wp2
                          go_ret
                          exact ⟨by first | rfl | (simp [errW_none, errW_some] <;> rfl) | (simp [*, errW_none, errW_some] <;> rfl), by repeat (first | (with_reducible first | exact HB.out | apply below_alloc | apply pw_below_drewN | apply below_drew1) | exact HB.out)⟩
                        · rw [if_neg c50] at H
                          have c50b0 : ((rd t128 x76_2) == a1) = false := beq_eq_false_iff_ne.mpr c50
                          have c50b1 : ((rd t128 x76_2) != a1) = true := bne_iff_ne.mpr c50
                          by_cases c51 : x76_2 > 0
                          · rw [if_pos c51] at H
                            have c51b0 : decide (0 < x76_2) = true := decide_eq_true c51
                            clear c51
                            obtain ⟨ji52, hji52⟩ : ∃ j_ : Int, (wrap64 (x76_2 - 1)) = j_ := ⟨_, rfl⟩
                            replace H : (if 0 ≤ (ji52) then (if (ji52) < (t128.length : Int) then (if (rd t128 (ji52)) ≥ (rd t128 x76_2) then (some false) else (if 0 ≤ (rd t128 x76_2) then (if (rd t128 x76_2) < (t121.length : Int) then (if ((rd_T60 t121 (rd t128 x76_2)).f0) = 3 then (if 0 ≤ a1 then (if a1 < (t121.length : Int) then (if ((rd_T60 t121 a1).f0) = 3 then ((footwayref06_Has.f k2 t124 (rd t128 x76_2)).bind fun t143 => (if t143 = true then (footwaylaw13_RelayNever.l0 k2 t121 a1 a2 a3 t124 t128 t128 (t128.length : Int) (wrap64 (x76_2 + 1))) else (some false))) else (some false)) else (none)) else (none)) else (some false)) else (none)) else (none))) else (none)) else (none)) = some r := by first | (rw [hji52] at H; exact H) | (simp only [hji52] at H ⊢; exact H)
                            have hji52w : (IntKind.i64.wrap (x76_2 - 1)) = ji52 := (i64_w _).trans hji52
                            by_cases c53 : 0 ≤ (ji52)
                            · rw [if_pos c53] at H
                              have c53b0 : decide (0 ≤ (ji52)) = true := decide_eq_true c53
                              clear c53
                              by_cases c54 : (ji52) < (t128.length : Int)
                              · rw [if_pos c54] at H
                                have c54b0 : decide ((ji52) < (t128.length : Int)) = true := decide_eq_true c54
                                clear c54
                                by_cases c55 : (rd t128 (ji52)) ≥ (rd t128 x76_2)
                                · rw [if_pos c55] at H
                                  have c55b0 : decide ((rd t128 x76_2) ≤ (rd t128 (ji52))) = true := decide_eq_true c55
                                  clear c55
                                  obtain rfl := Option.some.inj H
                                  have p139 : 0 ≤ (x76_2 : Int) := of_decide_eq_true (by first | (with_reducible assumption) | assumption)
                                  have q139 : x76_2 < (t128.length : Int) := of_decide_eq_true (by first | (with_reducible assumption) | assumption)
                                  obtain ⟨ad139, e139, hx139_0⟩ := Kd.at_int (Kd.R_reads' HO_74.out).2.2 x76_2 p139 q139
                                  cases e139
                                  replace p139 := eq_true p139
                                  replace q139 := eq_true q139
                                  have p140 : 0 ≤ ((ji52) : Int) := of_decide_eq_true (by first | (with_reducible assumption) | assumption)
                                  have q140 : (ji52) < (t128.length : Int) := of_decide_eq_true (by first | (with_reducible assumption) | assumption)
                                  obtain ⟨ad140, e140, hx140_0⟩ := Kd.at_int (Kd.R_reads' HO_11.out).2.2 (ji52) p140 q140
                                  obtain rfl : ad139 = ad140 := (by injection e140)
                                  replace p140 := eq_true p140
                                  replace q140 := eq_true q140
                                  go_wp2
                                  go_ret
                                  exact ⟨by first | rfl | (simp [errW_none, errW_some] <;> rfl) | (simp only [← hji52]; first | rfl | (simp [errW_none, errW_some] <;> rfl)) | (simp [*, errW_none, errW_some] <;> rfl), by repeat (first | (with_reducible first | exact HB.out | apply below_alloc | apply pw_below_drewN | apply below_drew1) | exact HB.out)⟩
                                · rw [if_neg c55] at H
                                  have c55b0 : decide ((rd t128 x76_2) ≤ (rd t128 (ji52))) = false := decide_eq_false c55
                                  clear c55
                                  by_cases c56 : 0 ≤ (rd t128 x76_2)
                                  · rw [if_pos c56] at H
                                    have c56b0 : decide (0 ≤ (rd t128 x76_2)) = true := decide_eq_true c56
                                    clear c56
                                    by_cases c57 : (rd t128 x76_2) < (t121.length : Int)
                                    · rw [if_pos c57] at H
                                      have c57b0 : decide ((rd t128 x76_2) < (t121.length : Int)) = true := decide_eq_true c57
                                      clear c57
                                      by_cases c58 : ((rd_T60 t121 (rd t128 x76_2)).f0) = 3
                                      · rw [if_pos c58] at H
                                        have c58b0 : (((rd_T60 t121 (rd t128 x76_2)).f0) == 3) = true := beq_iff_eq.mpr c58
                                        have c58b1 : (((rd_T60 t121 (rd t128 x76_2)).f0) != 3) = false := bne_eq_false_iff_eq.mpr c58
                                        clear c58
                                        by_cases c59 : 0 ≤ a1
                                        · rw [if_pos c59] at H
                                          have c59b0 : decide (0 ≤ a1) = true := decide_eq_true c59
                                          clear c59
                                          by_cases c60 : a1 < (t121.length : Int)
                                          · rw [if_pos c60] at H
                                            have c60b0 : decide (a1 < (t121.length : Int)) = true := decide_eq_true c60
                                            clear c60
                                            by_cases c61 : ((rd_T60 t121 a1).f0) = 3
                                            · rw [if_pos c61] at H
                                              have c61b0 : (((rd_T60 t121 a1).f0) == 3) = true := beq_iff_eq.mpr c61
                                              have c61b1 : (((rd_T60 t121 a1).f0) != 3) = false := bne_eq_false_iff_eq.mpr c61
                                              clear c61
                                              replace H := Option.bind_eq_some_iff.mp H
                                              obtain ⟨t143, A620, H⟩ := H
                                              replace H : (if t143 = true then (footwaylaw13_RelayNever.l0 k2 t121 a1 a2 a3 t124 t128 t128 (t128.length : Int) (wrap64 (x76_2 + 1))) else (some false)) = some r := H
                                              have A62 := Aside0.mk A620
                                              clear A620
                                              by_cases c63 : t143 = true
                                              · subst c63
                                                have H1 : (footwaylaw13_RelayNever.l0 k2 t121 a1 a2 a3 t124 t128 t128 (t128.length : Int) (wrap64 (x76_2 + 1))) = some r := by rw [if_pos rfl] at H; exact H
                                                clear H
                                                have H := H1
                                                clear H1
                                                have H' := Aside0.mk H
                                                clear H
                                                have p139 : 0 ≤ (x76_2 : Int) := of_decide_eq_true (by first | (with_reducible assumption) | assumption)
                                                have q139 : x76_2 < (t128.length : Int) := of_decide_eq_true (by first | (with_reducible assumption) | assumption)
                                                obtain ⟨ad139, e139, hx139_0⟩ := Kd.at_int (Kd.R_reads' HO_74.out).2.2 x76_2 p139 q139
                                                cases e139
                                                replace p139 := eq_true p139
                                                replace q139 := eq_true q139
                                                have p140 : 0 ≤ ((ji52) : Int) := of_decide_eq_true (by first | (with_reducible assumption) | assumption)
                                                have q140 : (ji52) < (t128.length : Int) := of_decide_eq_true (by first | (with_reducible assumption) | assumption)
                                                obtain ⟨ad140, e140, hx140_0⟩ := Kd.at_int (Kd.R_reads' HO_11.out).2.2 (ji52) p140 q140
                                                obtain rfl : ad139 = ad140 := (by injection e140)
                                                replace p140 := eq_true p140
                                                replace q140 := eq_true q140
                                                have p141 : 0 ≤ ((rd t128 x76_2) : Int) := of_decide_eq_true (by first | (with_reducible assumption) | assumption)
                                                have q141 : (rd t128 x76_2) < (t121.length : Int) := of_decide_eq_true (by first | (with_reducible assumption) | assumption)
                                                obtain ⟨ad141, e141, hx141_0, hx141_1⟩ := at_T60 (Kd.V_reads' HO_0.out).2.2 (rd t128 x76_2) p141 q141
                                                cases e141
                                                replace p141 := eq_true p141
                                                replace q141 := eq_true q141
                                                have p142 : 0 ≤ (a1 : Int) := of_decide_eq_true (by first | (with_reducible assumption) | assumption)
                                                have q142 : a1 < (t121.length : Int) := of_decide_eq_true (by first | (with_reducible assumption) | assumption)
                                                obtain ⟨ad142, e142, hx142_0, hx142_1⟩ := at_T60 (Kd.V_reads' HO_0.out).2.2 a1 p142 q142
                                                obtain rfl : ad141 = ad142 := (by injection e142)
                                                replace p142 := eq_true p142
                                                replace q142 := eq_true q142
                                                obtain ⟨Ao64, co64, eo64⟩ := Kd.R_slice HO_9.out
                                                subst eo64
                                                go_wp2_with (first | (go_at_call 18; (with_reducible refine (footwayref06_Has.calls k2 _ _ t124 (rd t128 x76_2) true _ ?side1 ?side2 A62.out).mono ?_); (case side1 => repeat (first | exact (Kd.R_reads' HO_9.out).2.2 | (with_reducible refine Kd.C_alloc ?_ _) | (with_reducible refine Kd.C_drewN ?_ _) | (with_reducible refine Kd.C_drew ?_))); (case side2 => exact (Kd.R_reads' HO_9.out).2.1); rintro e w' ⟨rfl, ⟨nd, rfl⟩⟩))
                                                go_roundg k2
                                                case measure => have := HJ8.out; have := HK2.out; omega
                                                case rel => exact ⟨(wrap64 (x76_2 + 1)), (by first | rfl | (simp; done) | (simp [*]; done)), H', ⟨by have := HJ8.out; have := HK2.out; omega⟩, ⟨by (with_reducible repeat (first | apply Kd.V_alloc | apply Kd.V_drewN | apply Kd.V_drew)); exact HO_0.out⟩, ⟨by (with_reducible repeat (first | apply Kd.R_alloc | apply Kd.R_drewN | apply Kd.R_drew)); exact HO_9.out⟩, ⟨by (with_reducible repeat (first | apply Kd.R_alloc | apply Kd.R_drewN | apply Kd.R_drew)); exact HO_11.out⟩, ⟨by (with_reducible repeat (first | apply Kd.R_alloc | apply Kd.R_drewN | apply Kd.R_drew)); exact HO_74.out⟩, ⟨by repeat (first | (with_reducible first | exact HB.out | apply below_alloc | apply pw_below_drewN | apply below_drew1) | exact HB.out)⟩⟩
                                              · replace c63 := Bool.eq_false_iff.mpr c63
                                                subst c63
                                                have H1 : (some false) = some r := by rw [if_neg (show ¬ (false = true) by decide)] at H; exact H
                                                clear H
                                                have H := H1
                                                clear H1
                                                obtain rfl := Option.some.inj H
                                                have p139 : 0 ≤ (x76_2 : Int) := of_decide_eq_true (by first | (with_reducible assumption) | assumption)
                                                have q139 : x76_2 < (t128.length : Int) := of_decide_eq_true (by first | (with_reducible assumption) | assumption)
                                                obtain ⟨ad139, e139, hx139_0⟩ := Kd.at_int (Kd.R_reads' HO_74.out).2.2 x76_2 p139 q139
                                                cases e139
                                                replace p139 := eq_true p139
                                                replace q139 := eq_true q139
                                                have p140 : 0 ≤ ((ji52) : Int) := of_decide_eq_true (by first | (with_reducible assumption) | assumption)
                                                have q140 : (ji52) < (t128.length : Int) := of_decide_eq_true (by first | (with_reducible assumption) | assumption)
                                                obtain ⟨ad140, e140, hx140_0⟩ := Kd.at_int (Kd.R_reads' HO_11.out).2.2 (ji52) p140 q140
                                                obtain rfl : ad139 = ad140 := (by injection e140)
                                                replace p140 := eq_true p140
                                                replace q140 := eq_true q140
                                                have p141 : 0 ≤ ((rd t128 x76_2) : Int) := of_decide_eq_true (by first | (with_reducible assumption) | assumption)
                                                have q141 : (rd t128 x76_2) < (t121.length : Int) := of_decide_eq_true (by first | (with_reducible assumption) | assumption)
                                                obtain ⟨ad141, e141, hx141_0, hx141_1⟩ := at_T60 (Kd.V_reads' HO_0.out).2.2 (rd t128 x76_2) p141 q141
                                                cases e141
                                                replace p141 := eq_true p141
                                                replace q141 := eq_true q141
                                                have p142 : 0 ≤ (a1 : Int) := of_decide_eq_true (by first | (with_reducible assumption) | assumption)
                                                have q142 : a1 < (t121.length : Int) := of_decide_eq_true (by first | (with_reducible assumption) | assumption)
                                                obtain ⟨ad142, e142, hx142_0, hx142_1⟩ := at_T60 (Kd.V_reads' HO_0.out).2.2 a1 p142 q142
                                                obtain rfl : ad141 = ad142 := (by injection e142)
                                                replace p142 := eq_true p142
                                                replace q142 := eq_true q142
                                                obtain ⟨Ao65, co65, eo65⟩ := Kd.R_slice HO_9.out
                                                subst eo65
                                                go_wp2_with (first | (go_at_call 18; (with_reducible refine (footwayref06_Has.calls k2 _ _ t124 (rd t128 x76_2) false _ ?side1 ?side2 A62.out).mono ?_); (case side1 => repeat (first | exact (Kd.R_reads' HO_9.out).2.2 | (with_reducible refine Kd.C_alloc ?_ _) | (with_reducible refine Kd.C_drewN ?_ _) | (with_reducible refine Kd.C_drew ?_))); (case side2 => exact (Kd.R_reads' HO_9.out).2.1); rintro e w' ⟨rfl, ⟨nd, rfl⟩⟩))
                                                go_ret
                                                exact ⟨by first | rfl | (simp [errW_none, errW_some] <;> rfl) | (simp only [← hji52]; first | rfl | (simp [errW_none, errW_some] <;> rfl)) | (simp [*, errW_none, errW_some] <;> rfl), by repeat (first | (with_reducible first | exact HB.out | apply below_alloc | apply pw_below_drewN | apply below_drew1) | exact HB.out)⟩
                                            · rw [if_neg c61] at H
                                              have c61b0 : (((rd_T60 t121 a1).f0) == 3) = false := beq_eq_false_iff_ne.mpr c61
                                              have c61b1 : (((rd_T60 t121 a1).f0) != 3) = true := bne_iff_ne.mpr c61
                                              obtain rfl := Option.some.inj H
                                              have p139 : 0 ≤ (x76_2 : Int) := of_decide_eq_true (by first | (with_reducible assumption) | assumption)
                                              have q139 : x76_2 < (t128.length : Int) := of_decide_eq_true (by first | (with_reducible assumption) | assumption)
                                              obtain ⟨ad139, e139, hx139_0⟩ := Kd.at_int (Kd.R_reads' HO_74.out).2.2 x76_2 p139 q139
                                              cases e139
                                              replace p139 := eq_true p139
                                              replace q139 := eq_true q139
                                              have p140 : 0 ≤ ((ji52) : Int) := of_decide_eq_true (by first | (with_reducible assumption) | assumption)
                                              have q140 : (ji52) < (t128.length : Int) := of_decide_eq_true (by first | (with_reducible assumption) | assumption)
                                              obtain ⟨ad140, e140, hx140_0⟩ := Kd.at_int (Kd.R_reads' HO_11.out).2.2 (ji52) p140 q140
                                              obtain rfl : ad139 = ad140 := (by injection e140)
                                              replace p140 := eq_true p140
                                              replace q140 := eq_true q140
                                              have p141 : 0 ≤ ((rd t128 x76_2) : Int) := of_decide_eq_true (by first | (with_reducible assumption) | assumption)
                                              have q141 : (rd t128 x76_2) < (t121.length : Int) := of_decide_eq_true (by first | (with_reducible assumption) | assumption)
                                              obtain ⟨ad141, e141, hx141_0, hx141_1⟩ := at_T60 (Kd.V_reads' HO_0.out).2.2 (rd t128 x76_2) p141 q141
                                              cases e141
                                              replace p141 := eq_true p141
                                              replace q141 := eq_true q141
                                              have p142 : 0 ≤ (a1 : Int) := of_decide_eq_true (by first | (with_reducible assumption) | assumption)
                                              have q142 : a1 < (t121.length : Int) := of_decide_eq_true (by first | (with_reducible assumption) | assumption)
                                              obtain ⟨ad142, e142, hx142_0, hx142_1⟩ := at_T60 (Kd.V_reads' HO_0.out).2.2 a1 p142 q142
                                              obtain rfl : ad141 = ad142 := (by injection e142)
                                              replace p142 := eq_true p142
                                              replace q142 := eq_true q142
                                              go_wp2
                                              go_ret
                                              exact ⟨by first | rfl | (simp [errW_none, errW_some] <;> rfl) | (simp only [← hji52]; first | rfl | (simp [errW_none, errW_some] <;> rfl)) | (simp [*, errW_none, errW_some] <;> rfl), by repeat (first | (with_reducible first | exact HB.out | apply below_alloc | apply pw_below_drewN | apply below_drew1) | exact HB.out)⟩
                                          · rw [if_neg c60] at H
                                            exact absurd H (by simp)
                                        · rw [if_neg c59] at H
                                          exact absurd H (by simp)
                                      · rw [if_neg c58] at H
                                        have c58b0 : (((rd_T60 t121 (rd t128 x76_2)).f0) == 3) = false := beq_eq_false_iff_ne.mpr c58
                                        have c58b1 : (((rd_T60 t121 (rd t128 x76_2)).f0) != 3) = true := bne_iff_ne.mpr c58
                                        obtain rfl := Option.some.inj H
                                        have p139 : 0 ≤ (x76_2 : Int) := of_decide_eq_true (by first | (with_reducible assumption) | assumption)
                                        have q139 : x76_2 < (t128.length : Int) := of_decide_eq_true (by first | (with_reducible assumption) | assumption)
                                        obtain ⟨ad139, e139, hx139_0⟩ := Kd.at_int (Kd.R_reads' HO_74.out).2.2 x76_2 p139 q139
                                        cases e139
                                        replace p139 := eq_true p139
                                        replace q139 := eq_true q139
                                        have p140 : 0 ≤ ((ji52) : Int) := of_decide_eq_true (by first | (with_reducible assumption) | assumption)
                                        have q140 : (ji52) < (t128.length : Int) := of_decide_eq_true (by first | (with_reducible assumption) | assumption)
                                        obtain ⟨ad140, e140, hx140_0⟩ := Kd.at_int (Kd.R_reads' HO_11.out).2.2 (ji52) p140 q140
                                        obtain rfl : ad139 = ad140 := (by injection e140)
                                        replace p140 := eq_true p140
                                        replace q140 := eq_true q140
                                        have p141 : 0 ≤ ((rd t128 x76_2) : Int) := of_decide_eq_true (by first | (with_reducible assumption) | assumption)
                                        have q141 : (rd t128 x76_2) < (t121.length : Int) := of_decide_eq_true (by first | (with_reducible assumption) | assumption)
                                        obtain ⟨ad141, e141, hx141_0, hx141_1⟩ := at_T60 (Kd.V_reads' HO_0.out).2.2 (rd t128 x76_2) p141 q141
                                        cases e141
                                        replace p141 := eq_true p141
                                        replace q141 := eq_true q141
                                        go_wp2
                                        go_ret
                                        exact ⟨by first | rfl | (simp [errW_none, errW_some] <;> rfl) | (simp only [← hji52]; first | rfl | (simp [errW_none, errW_some] <;> rfl)) | (simp [*, errW_none, errW_some] <;> rfl), by repeat (first | (with_reducible first | exact HB.out | apply below_alloc | apply pw_below_drewN | apply below_drew1) | exact HB.out)⟩
                                    · rw [if_neg c57] at H
                                      exact absurd H (by simp)
                                  · rw [if_neg c56] at H
                                    exact absurd H (by simp)
                              · rw [if_neg c54] at H
                                exact absurd H (by simp)
                            · rw [if_neg c53] at H
                              exact absurd H (by simp)
                          · rw [if_neg c51] at H
                            have c51b0 : decide (0 < x76_2) = false := decide_eq_false c51
                            clear c51
                            by_cases c66 : 0 ≤ (rd t128 x76_2)
                            · rw [if_pos c66] at H
                              have c66b0 : decide (0 ≤ (rd t128 x76_2)) = true := decide_eq_true c66
                              clear c66
                              by_cases c67 : (rd t128 x76_2) < (t121.length : Int)
                              · rw [if_pos c67] at H
                                have c67b0 : decide ((rd t128 x76_2) < (t121.length : Int)) = true := decide_eq_true c67
                                clear c67
                                by_cases c68 : ((rd_T60 t121 (rd t128 x76_2)).f0) = 3
                                · rw [if_pos c68] at H
                                  have c68b0 : (((rd_T60 t121 (rd t128 x76_2)).f0) == 3) = true := beq_iff_eq.mpr c68
                                  have c68b1 : (((rd_T60 t121 (rd t128 x76_2)).f0) != 3) = false := bne_eq_false_iff_eq.mpr c68
                                  clear c68
                                  by_cases c69 : 0 ≤ a1
                                  · rw [if_pos c69] at H
                                    have c69b0 : decide (0 ≤ a1) = true := decide_eq_true c69
                                    clear c69
                                    by_cases c70 : a1 < (t121.length : Int)
                                    · rw [if_pos c70] at H
                                      have c70b0 : decide (a1 < (t121.length : Int)) = true := decide_eq_true c70
                                      clear c70
                                      by_cases c71 : ((rd_T60 t121 a1).f0) = 3
                                      · rw [if_pos c71] at H
                                        have c71b0 : (((rd_T60 t121 a1).f0) == 3) = true := beq_iff_eq.mpr c71
                                        have c71b1 : (((rd_T60 t121 a1).f0) != 3) = false := bne_eq_false_iff_eq.mpr c71
                                        clear c71
                                        replace H := Option.bind_eq_some_iff.mp H
                                        obtain ⟨t146, A720, H⟩ := H
                                        replace H : (if t146 = true then (footwaylaw13_RelayNever.l0 k2 t121 a1 a2 a3 t124 t128 t128 (t128.length : Int) (wrap64 (x76_2 + 1))) else (some false)) = some r := H
                                        have A72 := Aside0.mk A720
                                        clear A720
                                        by_cases c73 : t146 = true
                                        · subst c73
                                          have H1 : (footwaylaw13_RelayNever.l0 k2 t121 a1 a2 a3 t124 t128 t128 (t128.length : Int) (wrap64 (x76_2 + 1))) = some r := by rw [if_pos rfl] at H; exact H
                                          clear H
                                          have H := H1
                                          clear H1
                                          have H' := Aside0.mk H
                                          clear H
                                          have p139 : 0 ≤ (x76_2 : Int) := of_decide_eq_true (by first | (with_reducible assumption) | assumption)
                                          have q139 : x76_2 < (t128.length : Int) := of_decide_eq_true (by first | (with_reducible assumption) | assumption)
                                          obtain ⟨ad139, e139, hx139_0⟩ := Kd.at_int (Kd.R_reads' HO_74.out).2.2 x76_2 p139 q139
                                          cases e139
                                          replace p139 := eq_true p139
                                          replace q139 := eq_true q139
                                          have p144 : 0 ≤ ((rd t128 x76_2) : Int) := of_decide_eq_true (by first | (with_reducible assumption) | assumption)
                                          have q144 : (rd t128 x76_2) < (t121.length : Int) := of_decide_eq_true (by first | (with_reducible assumption) | assumption)
                                          obtain ⟨ad144, e144, hx144_0, hx144_1⟩ := at_T60 (Kd.V_reads' HO_0.out).2.2 (rd t128 x76_2) p144 q144
                                          cases e144
                                          replace p144 := eq_true p144
                                          replace q144 := eq_true q144
                                          have p145 : 0 ≤ (a1 : Int) := of_decide_eq_true (by first | (with_reducible assumption) | assumption)
                                          have q145 : a1 < (t121.length : Int) := of_decide_eq_true (by first | (with_reducible assumption) | assumption)
                                          obtain ⟨ad145, e145, hx145_0, hx145_1⟩ := at_T60 (Kd.V_reads' HO_0.out).2.2 a1 p145 q145
                                          obtain rfl : ad144 = ad145 := (by injection e145)
                                          replace p145 := eq_true p145
                                          replace q145 := eq_true q145
                                          obtain ⟨Ao74, co74, eo74⟩ := Kd.R_slice HO_9.out
                                          subst eo74
                                          go_wp2_with (first | (go_at_call 18; (with_reducible refine (footwayref06_Has.calls k2 _ _ t124 (rd t128 x76_2) true _ ?side1 ?side2 A72.out).mono ?_); (case side1 => repeat (first | exact (Kd.R_reads' HO_9.out).2.2 | (with_reducible refine Kd.C_alloc ?_ _) | (with_reducible refine Kd.C_drewN ?_ _) | (with_reducible refine Kd.C_drew ?_))); (case side2 => exact (Kd.R_reads' HO_9.out).2.1); rintro e w' ⟨rfl, ⟨nd, rfl⟩⟩))
                                          go_roundg k2
                                          case measure => have := HJ8.out; have := HK2.out; omega
                                          case rel => exact ⟨(wrap64 (x76_2 + 1)), (by first | rfl | (simp; done) | (simp [*]; done)), H', ⟨by have := HJ8.out; have := HK2.out; omega⟩, ⟨by (with_reducible repeat (first | apply Kd.V_alloc | apply Kd.V_drewN | apply Kd.V_drew)); exact HO_0.out⟩, ⟨by (with_reducible repeat (first | apply Kd.R_alloc | apply Kd.R_drewN | apply Kd.R_drew)); exact HO_9.out⟩, ⟨by (with_reducible repeat (first | apply Kd.R_alloc | apply Kd.R_drewN | apply Kd.R_drew)); exact HO_11.out⟩, ⟨by (with_reducible repeat (first | apply Kd.R_alloc | apply Kd.R_drewN | apply Kd.R_drew)); exact HO_74.out⟩, ⟨by repeat (first | (with_reducible first | exact HB.out | apply below_alloc | apply pw_below_drewN | apply below_drew1) | exact HB.out)⟩⟩
                                        · replace c73 := Bool.eq_false_iff.mpr c73
                                          subst c73
                                          have H1 : (some false) = some r := by rw [if_neg (show ¬ (false = true) by decide)] at H; exact H
                                          clear H
                                          have H := H1
                                          clear H1
                                          obtain rfl := Option.some.inj H
                                          have p139 : 0 ≤ (x76_2 : Int) := of_decide_eq_true (by first | (with_reducible assumption) | assumption)
                                          have q139 : x76_2 < (t128.length : Int) := of_decide_eq_true (by first | (with_reducible assumption) | assumption)
                                          obtain ⟨ad139, e139, hx139_0⟩ := Kd.at_int (Kd.R_reads' HO_74.out).2.2 x76_2 p139 q139
                                          cases e139
                                          replace p139 := eq_true p139
                                          replace q139 := eq_true q139
                                          have p144 : 0 ≤ ((rd t128 x76_2) : Int) := of_decide_eq_true (by first | (with_reducible assumption) | assumption)
                                          have q144 : (rd t128 x76_2) < (t121.length : Int) := of_decide_eq_true (by first | (with_reducible assumption) | assumption)
                                          obtain ⟨ad144, e144, hx144_0, hx144_1⟩ := at_T60 (Kd.V_reads' HO_0.out).2.2 (rd t128 x76_2) p144 q144
                                          cases e144
                                          replace p144 := eq_true p144
                                          replace q144 := eq_true q144
                                          have p145 : 0 ≤ (a1 : Int) := of_decide_eq_true (by first | (with_reducible assumption) | assumption)
                                          have q145 : a1 < (t121.length : Int) := of_decide_eq_true (by first | (with_reducible assumption) | assumption)
                                          obtain ⟨ad145, e145, hx145_0, hx145_1⟩ := at_T60 (Kd.V_reads' HO_0.out).2.2 a1 p145 q145
                                          obtain rfl : ad144 = ad145 := (by injection e145)
                                          replace p145 := eq_true p145
                                          replace q145 := eq_true q145
                                          obtain ⟨Ao75, co75, eo75⟩ := Kd.R_slice HO_9.out
                                          subst eo75
                                          go_wp2_with (first | (go_at_call 18; (with_reducible refine (footwayref06_Has.calls k2 _ _ t124 (rd t128 x76_2) false _ ?side1 ?side2 A72.out).mono ?_); (case side1 => repeat (first | exact (Kd.R_reads' HO_9.out).2.2 | (with_reducible refine Kd.C_alloc ?_ _) | (with_reducible refine Kd.C_drewN ?_ _) | (with_reducible refine Kd.C_drew ?_))); (case side2 => exact (Kd.R_reads' HO_9.out).2.1); rintro e w' ⟨rfl, ⟨nd, rfl⟩⟩))
                                          go_ret
                                          exact ⟨by first | rfl | (simp [errW_none, errW_some] <;> rfl) | (simp [*, errW_none, errW_some] <;> rfl), by repeat (first | (with_reducible first | exact HB.out | apply below_alloc | apply pw_below_drewN | apply below_drew1) | exact HB.out)⟩
                                      · rw [if_neg c71] at H
                                        have c71b0 : (((rd_T60 t121 a1).f0) == 3) = false := beq_eq_false_iff_ne.mpr c71
                                        have c71b1 : (((rd_T60 t121 a1).f0) != 3) = true := bne_iff_ne.mpr c71
                                        obtain rfl := Option.some.inj H
                                        have p139 : 0 ≤ (x76_2 : Int) := of_decide_eq_true (by first | (with_reducible assumption) | assumption)
                                        have q139 : x76_2 < (t128.length : Int) := of_decide_eq_true (by first | (with_reducible assumption) | assumption)
                                        obtain ⟨ad139, e139, hx139_0⟩ := Kd.at_int (Kd.R_reads' HO_74.out).2.2 x76_2 p139 q139
                                        cases e139
                                        replace p139 := eq_true p139
                                        replace q139 := eq_true q139
                                        have p144 : 0 ≤ ((rd t128 x76_2) : Int) := of_decide_eq_true (by first | (with_reducible assumption) | assumption)
                                        have q144 : (rd t128 x76_2) < (t121.length : Int) := of_decide_eq_true (by first | (with_reducible assumption) | assumption)
                                        obtain ⟨ad144, e144, hx144_0, hx144_1⟩ := at_T60 (Kd.V_reads' HO_0.out).2.2 (rd t128 x76_2) p144 q144
                                        cases e144
                                        replace p144 := eq_true p144
                                        replace q144 := eq_true q144
                                        have p145 : 0 ≤ (a1 : Int) := of_decide_eq_true (by first | (with_reducible assumption) | assumption)
                                        have q145 : a1 < (t121.length : Int) := of_decide_eq_true (by first | (with_reducible assumption) | assumption)
                                        obtain ⟨ad145, e145, hx145_0, hx145_1⟩ := at_T60 (Kd.V_reads' HO_0.out).2.2 a1 p145 q145
                                        obtain rfl : ad144 = ad145 := (by injection e145)
                                        replace p145 := eq_true p145
                                        replace q145 := eq_true q145
                                        go_wp2
                                        go_ret
                                        exact ⟨by first | rfl | (simp [errW_none, errW_some] <;> rfl) | (simp [*, errW_none, errW_some] <;> rfl), by repeat (first | (with_reducible first | exact HB.out | apply below_alloc | apply pw_below_drewN | apply below_drew1) | exact HB.out)⟩
                                    · rw [if_neg c70] at H
                                      exact absurd H (by simp)
                                  · rw [if_neg c69] at H
                                    exact absurd H (by simp)
                                · rw [if_neg c68] at H
                                  have c68b0 : (((rd_T60 t121 (rd t128 x76_2)).f0) == 3) = false := beq_eq_false_iff_ne.mpr c68
                                  have c68b1 : (((rd_T60 t121 (rd t128 x76_2)).f0) != 3) = true := bne_iff_ne.mpr c68
                                  obtain rfl := Option.some.inj H
                                  have p139 : 0 ≤ (x76_2 : Int) := of_decide_eq_true (by first | (with_reducible assumption) | assumption)
                                  have q139 : x76_2 < (t128.length : Int) := of_decide_eq_true (by first | (with_reducible assumption) | assumption)
                                  obtain ⟨ad139, e139, hx139_0⟩ := Kd.at_int (Kd.R_reads' HO_74.out).2.2 x76_2 p139 q139
                                  cases e139
                                  replace p139 := eq_true p139
                                  replace q139 := eq_true q139
                                  have p144 : 0 ≤ ((rd t128 x76_2) : Int) := of_decide_eq_true (by first | (with_reducible assumption) | assumption)
                                  have q144 : (rd t128 x76_2) < (t121.length : Int) := of_decide_eq_true (by first | (with_reducible assumption) | assumption)
                                  obtain ⟨ad144, e144, hx144_0, hx144_1⟩ := at_T60 (Kd.V_reads' HO_0.out).2.2 (rd t128 x76_2) p144 q144
                                  cases e144
                                  replace p144 := eq_true p144
                                  replace q144 := eq_true q144
                                  go_wp2
                                  go_ret
                                  exact ⟨by first | rfl | (simp [errW_none, errW_some] <;> rfl) | (simp [*, errW_none, errW_some] <;> rfl), by repeat (first | (with_reducible first | exact HB.out | apply below_alloc | apply pw_below_drewN | apply below_drew1) | exact HB.out)⟩
                              · rw [if_neg c67] at H
                                exact absurd H (by simp)
                            · rw [if_neg c66] at H
                              exact absurd H (by simp)
                  · rw [if_neg c47] at H
                    exact absurd H (by simp)
                · rw [if_neg c46] at H
                  exact absurd H (by simp)
              · rw [if_neg c45] at H
                have c45b0 : decide (x76_2 < (t128.length : Int)) = false := decide_eq_false c45
                clear c45
                by_cases c76 : a2 = 0
                · rw [if_pos c76] at H
                  have c76b0 : (a2 == 0) = true := beq_iff_eq.mpr c76
                  have c76b1 : (a2 != 0) = false := bne_eq_false_iff_eq.mpr c76
                  clear c76
                  by_cases c77 : a3 = (-1)
                  · rw [if_pos c77] at H
                    have c77b0 : (a3 == (-1)) = true := beq_iff_eq.mpr c77
                    have c77b1 : (a3 != (-1)) = false := bne_eq_false_iff_eq.mpr c77
                    clear c77
                    replace H := Option.bind_eq_some_iff.mp H
                    obtain ⟨t147, A780, H⟩ := H
                    replace H : (some t147) = some r := H
                    have A78 := Aside0.mk A780
                    clear A780
                    obtain rfl := Option.some.inj H
                    obtain ⟨Ao79, co79, eo79⟩ := Kd.R_slice HO_9.out
                    subst eo79
                    go_wp2_with (first | ((with_reducible refine gate_callee (f := 16) rfl ?_); refine goesL_ (some 136) rfl rfl Try.func16 (by kernel_rfl) rfl #[.slice Ao79 t124.length co79, .slice Ao44 t128.length co44] rfl (by (try simp only [List.map_toArray, List.map_cons, List.map_nil]); first | done | rfl | (simp only [List.length_drop, List.length_take]; rfl)) ?_; (with_reducible refine (footwayref06_Same.calls k2 _ _ t124 _ _ t128 t147 _ ?side1 ?side2 ?side3 ?side4 A78.out).mono ?_); (case side1 => repeat (first | exact (Kd.R_reads' HO_9.out).2.2 | (with_reducible refine Kd.C_alloc ?_ _) | (with_reducible refine Kd.C_drewN ?_ _) | (with_reducible refine Kd.C_drew ?_))); (case side2 => exact (Kd.R_reads' HO_9.out).2.1); (case side3 => repeat (first | exact (Kd.R_reads' HO_11.out).2.2 | (with_reducible refine Kd.C_alloc ?_ _) | (with_reducible refine Kd.C_drewN ?_ _) | (with_reducible refine Kd.C_drew ?_))); (case side4 => exact (Kd.R_reads' HO_11.out).2.1); rintro e w' ⟨rfl, ⟨nd, rfl⟩⟩; refine ⟨_, rfl, ?_⟩))
                    go_ret
                    exact ⟨by first | rfl | (simp [errW_none, errW_some] <;> rfl) | (simp [*, errW_none, errW_some] <;> rfl), by repeat (first | (with_reducible first | exact HB.out | apply below_alloc | apply pw_below_drewN | apply below_drew1) | exact HB.out)⟩
                  · rw [if_neg c77] at H
                    have c77b0 : (a3 == (-1)) = false := beq_eq_false_iff_ne.mpr c77
                    have c77b1 : (a3 != (-1)) = true := bne_iff_ne.mpr c77
                    by_cases c80 : (t128.length : Int) ≤ 1
                    · rw [if_pos c80] at H
                      have c80b0 : decide ((t128.length : Int) ≤ 1) = true := decide_eq_true c80
                      have c80b1 : decide (t128.length ≤ 1) = true := decide_eq_true (by omega)
                      clear c80
                      by_cases c81 : (t128.length : Int) = 0
                      · rw [if_pos c81] at H
                        have c81b0 : ((t128.length : Int) == 0) = true := beq_iff_eq.mpr c81
                        have c81b1 : ((t128.length : Int) != 0) = false := bne_eq_false_iff_eq.mpr c81
                        clear c81
                        replace H := Option.bind_eq_some_iff.mp H
                        obtain ⟨t148, A820, H⟩ := H
                        replace H : (some (((t128.length : Int) == 1) == t148)) = some r := H
                        have A82 := Aside0.mk A820
                        clear A820
                        obtain rfl := Option.some.inj H
                        obtain ⟨Ao83, co83, eo83⟩ := Kd.R_slice HO_9.out
                        subst eo83
                        go_wp2_with (first | (go_at_call 18; (with_reducible refine (footwayref06_Has.calls k2 _ _ t124 a3 t148 _ ?side1 ?side2 A82.out).mono ?_); (case side1 => repeat (first | exact (Kd.R_reads' HO_9.out).2.2 | (with_reducible refine Kd.C_alloc ?_ _) | (with_reducible refine Kd.C_drewN ?_ _) | (with_reducible refine Kd.C_drew ?_))); (case side2 => exact (Kd.R_reads' HO_9.out).2.1); rintro e w' ⟨rfl, ⟨nd, rfl⟩⟩))
                        go_ret
                        exact ⟨by first | rfl | (simp [errW_none, errW_some] <;> rfl) | (simp [*, errW_none, errW_some] <;> rfl), by repeat (first | (with_reducible first | exact HB.out | apply below_alloc | apply pw_below_drewN | apply below_drew1) | exact HB.out)⟩
                      · rw [if_neg c81] at H
                        have c81b0 : ((t128.length : Int) == 0) = false := beq_eq_false_iff_ne.mpr c81
                        have c81b1 : ((t128.length : Int) != 0) = true := bne_iff_ne.mpr c81
                        have c81b2 : ¬ (t128 = []) := fun h_ => c81 (by rw [h_]; rfl)
                        by_cases c84 : 0 < (t128.length : Int)
                        · rw [if_pos c84] at H
                          have c84b0 : decide (0 < (t128.length : Int)) = true := decide_eq_true c84
                          have c84b1 : decide (0 < t128.length) = true := decide_eq_true (by omega)
                          clear c84
                          by_cases c85 : (rd t128 0) = a3
                          · rw [if_pos c85] at H
                            have c85b0 : ((rd t128 0) == a3) = true := beq_iff_eq.mpr c85
                            have c85b1 : ((rd t128 0) != a3) = false := bne_eq_false_iff_eq.mpr c85
                            clear c85
                            replace H := Option.bind_eq_some_iff.mp H
                            obtain ⟨t150, A860, H⟩ := H
                            replace H : (some (((t128.length : Int) == 1) == t150)) = some r := H
                            have A86 := Aside0.mk A860
                            clear A860
                            obtain rfl := Option.some.inj H
                            have p149 : 0 ≤ (0 : Int) := (by omega)
                            have q149 : 0 < (t128.length : Int) := of_decide_eq_true (by first | (with_reducible assumption) | assumption)
                            obtain ⟨ad149, e149, hx149_0⟩ := Kd.at_int (Kd.R_reads' HO_11.out).2.2 0 p149 q149
                            cases e149
                            have qi149 : (0 < t128.length) = True := eq_true (by omega)
                            (try rw [show ((0 : Int)).toNat = 0 from rfl] at hx149_0)
                            (try rw [Addr.add_zero'] at hx149_0)
                            replace p149 := eq_true p149
                            replace q149 := eq_true q149
                            obtain ⟨Ao87, co87, eo87⟩ := Kd.R_slice HO_9.out
                            subst eo87
                            go_wp2_with (first | (go_at_call 18; (with_reducible refine (footwayref06_Has.calls k2 _ _ t124 a3 t150 _ ?side1 ?side2 A86.out).mono ?_); (case side1 => repeat (first | exact (Kd.R_reads' HO_9.out).2.2 | (with_reducible refine Kd.C_alloc ?_ _) | (with_reducible refine Kd.C_drewN ?_ _) | (with_reducible refine Kd.C_drew ?_))); (case side2 => exact (Kd.R_reads' HO_9.out).2.1); rintro e w' ⟨rfl, ⟨nd, rfl⟩⟩))
                            go_ret
                            exact ⟨by first | rfl | (simp [errW_none, errW_some] <;> rfl) | (simp [*, errW_none, errW_some] <;> rfl), by repeat (first | (with_reducible first | exact HB.out | apply below_alloc | apply pw_below_drewN | apply below_drew1) | exact HB.out)⟩
                          · rw [if_neg c85] at H
                            have c85b0 : ((rd t128 0) == a3) = false := beq_eq_false_iff_ne.mpr c85
                            have c85b1 : ((rd t128 0) != a3) = true := bne_iff_ne.mpr c85
                            obtain rfl := Option.some.inj H
                            have p149 : 0 ≤ (0 : Int) := (by omega)
                            have q149 : 0 < (t128.length : Int) := of_decide_eq_true (by first | (with_reducible assumption) | assumption)
                            obtain ⟨ad149, e149, hx149_0⟩ := Kd.at_int (Kd.R_reads' HO_11.out).2.2 0 p149 q149
                            cases e149
                            have qi149 : (0 < t128.length) = True := eq_true (by omega)
                            (try rw [show ((0 : Int)).toNat = 0 from rfl] at hx149_0)
                            (try rw [Addr.add_zero'] at hx149_0)
                            replace p149 := eq_true p149
                            replace q149 := eq_true q149
                            go_wp2
                            go_ret
                            exact ⟨by first | rfl | (simp [errW_none, errW_some] <;> rfl) | (simp [*, errW_none, errW_some] <;> rfl), by repeat (first | (with_reducible first | exact HB.out | apply below_alloc | apply pw_below_drewN | apply below_drew1) | exact HB.out)⟩
                        · rw [if_neg c84] at H
                          exact absurd H (by simp)
                    · rw [if_neg c80] at H
                      have c80b0 : decide ((t128.length : Int) ≤ 1) = false := decide_eq_false c80
                      have c80b1 : decide (t128.length ≤ 1) = false := decide_eq_false (by omega)
                      clear c80
                      obtain rfl := Option.some.inj H
                      go_wp2
                      go_ret
                      exact ⟨by first | rfl | (simp [errW_none, errW_some] <;> rfl) | (simp [*, errW_none, errW_some] <;> rfl), by repeat (first | (with_reducible first | exact HB.out | apply below_alloc | apply pw_below_drewN | apply below_drew1) | exact HB.out)⟩
                · rw [if_neg c76] at H
                  have c76b0 : (a2 == 0) = false := beq_eq_false_iff_ne.mpr c76
                  have c76b1 : (a2 != 0) = true := bne_iff_ne.mpr c76
                  obtain rfl := Option.some.inj H
                  go_wp2
                  go_ret
                  exact ⟨by first | rfl | (simp [errW_none, errW_some] <;> rfl) | (simp [*, errW_none, errW_some] <;> rfl), by repeat (first | (with_reducible first | exact HB.out | apply below_alloc | apply pw_below_drewN | apply below_drew1) | exact HB.out)⟩
  · rw [if_neg c8] at H
    have c8b0 : (t129 == 0) = false := beq_eq_false_iff_ne.mpr c8
    have c8b1 : (t129 != 0) = true := bne_iff_ne.mpr c8
    replace H := Option.bind_eq_some_iff.mp H
    obtain ⟨t132, A880, H⟩ := H
    replace H : (if t132 = true then (some ((t128.length : Int) == 0)) else (some false)) = some r := H
    have A88 := Aside0.mk A880
    clear A880
    by_cases c89 : t132 = true
    · subst c89
      have H1 : (some ((t128.length : Int) == 0)) = some r := by rw [if_pos rfl] at H; exact H
      clear H
      have H := H1
      clear H1
      obtain rfl := Option.some.inj H
      go_enter Try.func7, Try.ntmps7
      go_wp2_with (first | ((with_reducible refine gate_callee (f := 32) rfl ?_); refine goesL_ (some 16) rfl rfl Try.func32 (by kernel_rfl) rfl #[.slice A0 l0.length c0] rfl (by (try simp only [List.map_toArray, List.map_cons, List.map_nil]); first | done | rfl | (simp only [List.length_drop, List.length_take]; rfl)) ?_; (with_reducible refine (footwaylaw13_few.calls (fun k_ => k_ < w.heap.size) _ _ l0 t121 _ ?side1 A5.out).mono ?_); (case side1 => exact Kd.V_mk HC0.out (Kd.F_below (Kd.C_F k60_heap HR0.out) (by repeat (first | (with_reducible first | exact HB.out | apply below_alloc | apply pw_below_drewN | apply below_drew1) | exact HB.out)))); rintro e w90 ⟨v122, rfl, ho0, hb⟩; refine ⟨_, rfl, ?_⟩; have n0_ := Aside0.mk (Kd.V_lower (Kd.V_mono (ok' := fun k_ => True) ho0 (fun k_ hk_ => trivial)) (below_size (by repeat (first | (with_reducible first | exact HB.out | apply below_alloc | apply pw_below_drewN | apply below_drew1) | exact HB.out)))); have n1_ := Aside0.mk (below_step (by repeat (first | (with_reducible first | exact HB.out | apply below_alloc | apply pw_below_drewN | apply below_drew1) | exact HB.out)) hb); clear HB; have HO123 := n0_; have HB := n1_; clear n0_ n1_; (try clear hb); (try clear hb2); (try clear hk); (try clear hi); (try clear ho0); obtain ⟨Ao91, co91, eo91⟩ := Kd.V_slice HO123.out; subst eo91) | ((with_reducible refine gate_callee (f := 33) rfl ?_); refine goesL_ (some 20) rfl rfl Try.func33 (by kernel_rfl) rfl #[.slice Ao91 t121.length co91, .int .i64 a1] rfl (by (try simp only [List.map_toArray, List.map_cons, List.map_nil]); first | done | rfl | (simp only [List.length_drop, List.length_take]; rfl)) ?_; (with_reducible refine (relay_Flood.calls _ _ t121 a1 t124 t125 _ ?side1 ?side2 A6.out).mono ?_); (case side1 => repeat (first | exact (Kd.V_reads' HO123.out).2.2 | (with_reducible refine Kd.C_alloc ?_ _) | (with_reducible refine Kd.C_drewN ?_ _) | (with_reducible refine Kd.C_drew ?_))); (case side2 => exact (Kd.V_reads' HO123.out).2.1); rintro e w92 ⟨v126, rfl, ho0, hb⟩; refine ⟨_, rfl, ?_⟩; have n0_ := Aside0.mk (Kd.V_elder' (by (with_reducible repeat (first | apply Kd.V_alloc | apply Kd.V_drewN | apply Kd.V_drew)); exact HO123.out) (Kd.R_base ho0) hb); have n1_ := Aside0.mk (Kd.R_lower ho0 (below_size (by repeat (first | (with_reducible first | exact HB.out | apply below_alloc | apply pw_below_drewN | apply below_drew1) | exact HB.out)))); have n2_ := Aside0.mk (below_step (by repeat (first | (with_reducible first | exact HB.out | apply below_alloc | apply pw_below_drewN | apply below_drew1) | exact HB.out)) hb); clear HO123; clear HB; have HO123 := n0_; have HO127 := n1_; have HB := n2_; clear n0_ n1_ n2_; (try clear hb); (try clear hb2); (try clear hk); (try clear hi); (try clear ho0)) | ((with_reducible refine gate_callee (f := 34) rfl ?_); refine goesL_ (some 28) rfl rfl Try.func34 (by kernel_rfl) rfl #[.slice Ao91 t121.length co91, .int .i64 a1, .int .i64 a2, .int .i64 a3] rfl (by (try simp only [List.map_toArray, List.map_cons, List.map_nil]); first | done | rfl | (simp only [List.length_drop, List.length_take]; rfl)) ?_; (with_reducible refine (relay_Egress.calls _ _ t121 a1 a2 a3 t128 t129 _ ?side1 ?side2 A7.out).mono ?_); (case side1 => repeat (first | exact (Kd.V_reads' HO123.out).2.2 | (with_reducible refine Kd.C_alloc ?_ _) | (with_reducible refine Kd.C_drewN ?_ _) | (with_reducible refine Kd.C_drew ?_))); (case side2 => exact (Kd.V_reads' HO123.out).2.1); rintro e w93 ⟨v130, rfl, ho0, hb⟩; refine ⟨_, rfl, ?_⟩; have n0_ := Aside0.mk (Kd.V_elder' (by (with_reducible repeat (first | apply Kd.V_alloc | apply Kd.V_drewN | apply Kd.V_drew)); exact HO123.out) (Kd.R_base ho0) hb); have n1_ := Aside0.mk (Kd.R_elder' (by (with_reducible repeat (first | apply Kd.R_alloc | apply Kd.R_drewN | apply Kd.R_drew)); exact HO127.out) (Kd.R_base ho0) hb); have n2_ := Aside0.mk (Kd.R_lower (Kd.R_new' ho0 (Kd.R_lt (by (with_reducible repeat (first | apply Kd.R_alloc | apply Kd.R_drewN | apply Kd.R_drew)); exact HO127.out))) (below_size (by repeat (first | (with_reducible first | exact HB.out | apply below_alloc | apply pw_below_drewN | apply below_drew1) | exact HB.out)))); have n3_ := Aside0.mk (below_step (by repeat (first | (with_reducible first | exact HB.out | apply below_alloc | apply pw_below_drewN | apply below_drew1) | exact HB.out)) hb); clear HO123; clear HO127; clear HB; have HO123 := n0_; have HO127 := n1_; have HO131 := n2_; have HB := n3_; clear n0_ n1_ n2_ n3_; (try clear hb); (try clear hb2); (try clear hk); (try clear hi); (try clear ho0)) | ((with_reducible refine gate_callee (f := 35) rfl ?_); refine goesL_ (some 33) rfl rfl Try.func35 (by kernel_rfl) rfl #[] rfl (by (try simp only [List.map_toArray, List.map_cons, List.map_nil]); first | done | rfl | (simp only [List.length_drop, List.length_take]; rfl)) ?_; (with_reducible refine (footwaylaw13_alive.calls k  true _ A88.out).mono ?_); rintro e w94 ⟨rfl, hb⟩; refine ⟨_, rfl, ?_⟩; have n0_ := Aside0.mk (Kd.V_below (by (with_reducible repeat (first | apply Kd.V_alloc | apply Kd.V_drewN | apply Kd.V_drew)); exact HO123.out) hb); have n1_ := Aside0.mk (Kd.R_below (by (with_reducible repeat (first | apply Kd.R_alloc | apply Kd.R_drewN | apply Kd.R_drew)); exact HO127.out) hb); have n2_ := Aside0.mk (Kd.R_below (by (with_reducible repeat (first | apply Kd.R_alloc | apply Kd.R_drewN | apply Kd.R_drew)); exact HO131.out) hb); have n3_ := Aside0.mk (below_step (by repeat (first | (with_reducible first | exact HB.out | apply below_alloc | apply pw_below_drewN | apply below_drew1) | exact HB.out)) hb); clear HO123; clear HO127; clear HO131; clear HB; have HO123 := n0_; have HO127 := n1_; have HO131 := n2_; have HB := n3_; clear n0_ n1_ n2_ n3_; (try clear hb); (try clear hb2); (try clear hk); (try clear hi); obtain ⟨Ao95, co95, eo95⟩ := Kd.R_slice HO131.out; subst eo95))
      go_ret
      exact ⟨by first | rfl | (simp [errW_none, errW_some] <;> rfl) | (simp [*, errW_none, errW_some] <;> rfl), by repeat (first | (with_reducible first | exact HB.out | apply below_alloc | apply pw_below_drewN | apply below_drew1) | exact HB.out)⟩
    · replace c89 := Bool.eq_false_iff.mpr c89
      subst c89
      have H1 : (some false) = some r := by rw [if_neg (show ¬ (false = true) by decide)] at H; exact H
      clear H
      have H := H1
      clear H1
      obtain rfl := Option.some.inj H
      go_enter Try.func7, Try.ntmps7
      go_wp2_with (first | ((with_reducible refine gate_callee (f := 32) rfl ?_); refine goesL_ (some 16) rfl rfl Try.func32 (by kernel_rfl) rfl #[.slice A0 l0.length c0] rfl (by (try simp only [List.map_toArray, List.map_cons, List.map_nil]); first | done | rfl | (simp only [List.length_drop, List.length_take]; rfl)) ?_; (with_reducible refine (footwaylaw13_few.calls (fun k_ => k_ < w.heap.size) _ _ l0 t121 _ ?side1 A5.out).mono ?_); (case side1 => exact Kd.V_mk HC0.out (Kd.F_below (Kd.C_F k60_heap HR0.out) (by repeat (first | (with_reducible first | exact HB.out | apply below_alloc | apply pw_below_drewN | apply below_drew1) | exact HB.out)))); rintro e w96 ⟨v122, rfl, ho0, hb⟩; refine ⟨_, rfl, ?_⟩; have n0_ := Aside0.mk (Kd.V_lower (Kd.V_mono (ok' := fun k_ => True) ho0 (fun k_ hk_ => trivial)) (below_size (by repeat (first | (with_reducible first | exact HB.out | apply below_alloc | apply pw_below_drewN | apply below_drew1) | exact HB.out)))); have n1_ := Aside0.mk (below_step (by repeat (first | (with_reducible first | exact HB.out | apply below_alloc | apply pw_below_drewN | apply below_drew1) | exact HB.out)) hb); clear HB; have HO123 := n0_; have HB := n1_; clear n0_ n1_; (try clear hb); (try clear hb2); (try clear hk); (try clear hi); (try clear ho0); obtain ⟨Ao97, co97, eo97⟩ := Kd.V_slice HO123.out; subst eo97) | ((with_reducible refine gate_callee (f := 33) rfl ?_); refine goesL_ (some 20) rfl rfl Try.func33 (by kernel_rfl) rfl #[.slice Ao97 t121.length co97, .int .i64 a1] rfl (by (try simp only [List.map_toArray, List.map_cons, List.map_nil]); first | done | rfl | (simp only [List.length_drop, List.length_take]; rfl)) ?_; (with_reducible refine (relay_Flood.calls _ _ t121 a1 t124 t125 _ ?side1 ?side2 A6.out).mono ?_); (case side1 => repeat (first | exact (Kd.V_reads' HO123.out).2.2 | (with_reducible refine Kd.C_alloc ?_ _) | (with_reducible refine Kd.C_drewN ?_ _) | (with_reducible refine Kd.C_drew ?_))); (case side2 => exact (Kd.V_reads' HO123.out).2.1); rintro e w98 ⟨v126, rfl, ho0, hb⟩; refine ⟨_, rfl, ?_⟩; have n0_ := Aside0.mk (Kd.V_elder' (by (with_reducible repeat (first | apply Kd.V_alloc | apply Kd.V_drewN | apply Kd.V_drew)); exact HO123.out) (Kd.R_base ho0) hb); have n1_ := Aside0.mk (Kd.R_lower ho0 (below_size (by repeat (first | (with_reducible first | exact HB.out | apply below_alloc | apply pw_below_drewN | apply below_drew1) | exact HB.out)))); have n2_ := Aside0.mk (below_step (by repeat (first | (with_reducible first | exact HB.out | apply below_alloc | apply pw_below_drewN | apply below_drew1) | exact HB.out)) hb); clear HO123; clear HB; have HO123 := n0_; have HO127 := n1_; have HB := n2_; clear n0_ n1_ n2_; (try clear hb); (try clear hb2); (try clear hk); (try clear hi); (try clear ho0)) | ((with_reducible refine gate_callee (f := 34) rfl ?_); refine goesL_ (some 28) rfl rfl Try.func34 (by kernel_rfl) rfl #[.slice Ao97 t121.length co97, .int .i64 a1, .int .i64 a2, .int .i64 a3] rfl (by (try simp only [List.map_toArray, List.map_cons, List.map_nil]); first | done | rfl | (simp only [List.length_drop, List.length_take]; rfl)) ?_; (with_reducible refine (relay_Egress.calls _ _ t121 a1 a2 a3 t128 t129 _ ?side1 ?side2 A7.out).mono ?_); (case side1 => repeat (first | exact (Kd.V_reads' HO123.out).2.2 | (with_reducible refine Kd.C_alloc ?_ _) | (with_reducible refine Kd.C_drewN ?_ _) | (with_reducible refine Kd.C_drew ?_))); (case side2 => exact (Kd.V_reads' HO123.out).2.1); rintro e w99 ⟨v130, rfl, ho0, hb⟩; refine ⟨_, rfl, ?_⟩; have n0_ := Aside0.mk (Kd.V_elder' (by (with_reducible repeat (first | apply Kd.V_alloc | apply Kd.V_drewN | apply Kd.V_drew)); exact HO123.out) (Kd.R_base ho0) hb); have n1_ := Aside0.mk (Kd.R_elder' (by (with_reducible repeat (first | apply Kd.R_alloc | apply Kd.R_drewN | apply Kd.R_drew)); exact HO127.out) (Kd.R_base ho0) hb); have n2_ := Aside0.mk (Kd.R_lower (Kd.R_new' ho0 (Kd.R_lt (by (with_reducible repeat (first | apply Kd.R_alloc | apply Kd.R_drewN | apply Kd.R_drew)); exact HO127.out))) (below_size (by repeat (first | (with_reducible first | exact HB.out | apply below_alloc | apply pw_below_drewN | apply below_drew1) | exact HB.out)))); have n3_ := Aside0.mk (below_step (by repeat (first | (with_reducible first | exact HB.out | apply below_alloc | apply pw_below_drewN | apply below_drew1) | exact HB.out)) hb); clear HO123; clear HO127; clear HB; have HO123 := n0_; have HO127 := n1_; have HO131 := n2_; have HB := n3_; clear n0_ n1_ n2_ n3_; (try clear hb); (try clear hb2); (try clear hk); (try clear hi); (try clear ho0)) | ((with_reducible refine gate_callee (f := 35) rfl ?_); refine goesL_ (some 33) rfl rfl Try.func35 (by kernel_rfl) rfl #[] rfl (by (try simp only [List.map_toArray, List.map_cons, List.map_nil]); first | done | rfl | (simp only [List.length_drop, List.length_take]; rfl)) ?_; (with_reducible refine (footwaylaw13_alive.calls k  false _ A88.out).mono ?_); rintro e w100 ⟨rfl, hb⟩; refine ⟨_, rfl, ?_⟩; have n0_ := Aside0.mk (Kd.V_below (by (with_reducible repeat (first | apply Kd.V_alloc | apply Kd.V_drewN | apply Kd.V_drew)); exact HO123.out) hb); have n1_ := Aside0.mk (Kd.R_below (by (with_reducible repeat (first | apply Kd.R_alloc | apply Kd.R_drewN | apply Kd.R_drew)); exact HO127.out) hb); have n2_ := Aside0.mk (Kd.R_below (by (with_reducible repeat (first | apply Kd.R_alloc | apply Kd.R_drewN | apply Kd.R_drew)); exact HO131.out) hb); have n3_ := Aside0.mk (below_step (by repeat (first | (with_reducible first | exact HB.out | apply below_alloc | apply pw_below_drewN | apply below_drew1) | exact HB.out)) hb); clear HO123; clear HO127; clear HO131; clear HB; have HO123 := n0_; have HO127 := n1_; have HO131 := n2_; have HB := n3_; clear n0_ n1_ n2_ n3_; (try clear hb); (try clear hb2); (try clear hk); (try clear hi)))
      go_ret
      exact ⟨by first | rfl | (simp [errW_none, errW_some] <;> rfl) | (simp [*, errW_none, errW_some] <;> rfl), by repeat (first | (with_reducible first | exact HB.out | apply below_alloc | apply pw_below_drewN | apply below_drew1) | exact HB.out)⟩

end Go.Proofs.Ytnkkedkkjmehpaa.PRe
