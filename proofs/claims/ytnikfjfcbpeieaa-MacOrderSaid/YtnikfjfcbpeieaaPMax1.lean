-- Laid by a program of this session out of the translation; Lean checks it.
import Derived.Test.YtnikfjfcbpeieaaPMax0
import Derived.Test.YtnikfjfcbpeieaaBd
import Derived.Test.YtnikfjfcbpeieaaMp
import Derived.Test.YtnikfjfcbpeieaaPBbx1
import Derived.Test.YtnikfjfcbpeieaaFp
import Derived.Test.YtnikfjfcbpeieaaMp
import Derived.Test.YtnikfjfcbpeieaaPBax1
namespace Go.Proofs.Ytnikfjfcbpeieaa.PMa
open Go.RowKit Go.Proofs.Ytnikfjfcbpeieaa.EFrame Go.Proofs.Ytnikfjfcbpeieaa.PBa Go.Proofs.Ytnikfjfcbpeieaa.PBb Go.Proofs.Ytnikfjfcbpeieaa.EPr Go.Proofs.Ytnikfjfcbpeieaa.EOn Go.Proofs.YtnikfjfcbpeieaaW.PrintWords Go.Proofs.YtnikfjfcbpeieaaW.PrintLast Go.Proofs.YtnikfjfcbpeieaaW.PrintMore
attribute [local go_sem] max2_int min2_int max_two min_two max_three min_three max_four min_four   -- for this text's walks alone
set_option linter.unusedVariables false
set_option linter.unusedSimpArgs false

-- by hand: function 28 (mac_Of)

-- by hand: function 29 (mac_Parse)

/-! ### footwayref01_value: function 64 -/
def footwayref01_value.j0 : Nat → Int → Bool → Option (Int)
  | 0, _, _ => none
  | k + 1, x0, x8 => if x8 = true then (some ((x0 - 48) % 256)) else (if x0 ≥ 97 then (if x0 ≤ 102 then (some (((x0 - 97) % 256) + 10)) else (some (-1))) else (some (-1)))
def footwayref01_value.f (k : Nat) (a0 : Int) : Option (Int) := if a0 ≥ 48 then (footwayref01_value.j0 k a0 (decide (a0 ≤ 57))) else (footwayref01_value.j0 k a0 false)
theorem footwayref01_value.mono_l : ∀ k, (∀ y0 y1, LeO (footwayref01_value.j0 k y0 y1) (footwayref01_value.j0 (k + 1) y0 y1))
  | 0 => fun _ _ r h => by simp [footwayref01_value.j0] at h
  | k + 1 => by
    have ih0 := footwayref01_value.mono_l k
    · intro y0 y1
      unfold footwayref01_value.j0
      repeat' first
      | (with_reducible exact ih0 _ _)
      | (with_reducible exact LeO.refl _)
      | (with_reducible exact LeO.none _)
      | (with_reducible refine LeO.ite ?_ ?_)
      | (with_reducible refine LeO.bind ?_ (fun _ => ?_))
      | exact ih0 _ _
      | exact LeO.none _
      | refine LeO.ite ?_ ?_
      | refine LeO.bind ?_ (fun _ => ?_)
theorem footwayref01_value.mono : ∀ a0 k, LeO (footwayref01_value.f k a0) (footwayref01_value.f (k + 1) a0) := by
  intro a0 k
  have ih0 := footwayref01_value.mono_l k
  unfold footwayref01_value.f
  repeat' first
      | (with_reducible exact ih0 _ _)
      | (with_reducible exact LeO.refl _)
      | (with_reducible exact LeO.none _)
      | (with_reducible refine LeO.ite ?_ ?_)
      | (with_reducible refine LeO.bind ?_ (fun _ => ?_))
      | exact ih0 _ _
      | exact LeO.none _
      | refine LeO.ite ?_ ?_
      | refine LeO.bind ?_ (fun _ => ?_)
set_option maxHeartbeats 8000000 in
set_option maxRecDepth 100000 in
theorem footwayref01_value.calls (k : Nat) (a0 : Int) (r : Int) (w : World) (h : footwayref01_value.f k a0 = some r) :
    Calls Try.prog 64 #[.int .u8 a0] w fun e w' => e = .returned (.int .i64 r) ∧ Drawn0 w w' := by
  have H : (if a0 ≥ 48 then (footwayref01_value.j0 k a0 (decide (a0 ≤ 57))) else (footwayref01_value.j0 k a0 false)) = some r := h
  clear h
  have HC2 := Aside0.mk H
  clear H
  go_enter Try.func64, Try.ntmps64
  go_upto_region 1 with (fail)
  go_cut [8] (fun v8 wc => ∃ (kq : Nat) (x8_1 : Bool), v8 = .bool x8_1 ∧ Aside0 (footwayref01_value.j0 kq a0 x8_1 = some r) ∧ Aside0 (kq ≤ k) ∧ Drawn0 w wc)
  case first =>
    have H := HC2.out
    clear HC2
    by_cases c3 : a0 ≥ 48
    · rw [if_pos c3] at H
      have c3b0 : decide (48 ≤ a0) = true := decide_eq_true c3
      clear c3
      (first | rw [c3b0] | (simp only [i64_w, i32_w]; rw [c3b0]) | skip)
      have H' := Aside0.mk H
      clear H
      go_wp2
      go_meet
      case rel => exact ⟨_, (decide (a0 ≤ 57)), (by first | rfl | (simp; done) | (simp [*]; done)), H', ⟨by first | omega | exact Nat.le_refl _⟩, by repeat (first | exact Drawn0.refl _ | apply Drawn0.step)⟩
    · rw [if_neg c3] at H
      have c3b0 : decide (48 ≤ a0) = false := decide_eq_false c3
      clear c3
      (first | rw [c3b0] | (simp only [i64_w, i32_w]; rw [c3b0]) | skip)
      have H' := Aside0.mk H
      clear H
      go_wp2
      go_meet
      case rel => exact ⟨_, (false), (by first | rfl | (simp; done) | (simp [*]; done)), H', ⟨by first | omega | exact Nat.le_refl _⟩, by repeat (first | exact Drawn0.refl _ | apply Drawn0.step)⟩
  case rest =>
    clear HC2
    try clear p2
    try clear c3
    try clear c3b0
    obtain ⟨kq, x8_1, rfl, HA, HJ1, ⟨mc1, rfl⟩⟩ := hcut
    cases kq with
    | zero => exact absurd HA.out (by simp [footwayref01_value.j0])
    | succ kj1 =>
      have H := HA.out
      clear HA
      simp only [footwayref01_value.j0] at H
      by_cases c4 : x8_1 = true
      · subst c4
        have H1 : (some ((a0 - 48) % 256)) = some r := by rw [if_pos rfl] at H; exact H
        clear H
        have H := H1
        clear H1
        obtain rfl := Option.some.inj H
        go_wp2
        go_ret
        exact ⟨by first | rfl | (simp; done) | (simp [*]; done), by repeat (first | exact Drawn0.refl _ | apply Drawn0.step)⟩
      · replace c4 := Bool.eq_false_iff.mpr c4
        subst c4
        have H1 : (if a0 ≥ 97 then (if a0 ≤ 102 then (some (((a0 - 97) % 256) + 10)) else (some (-1))) else (some (-1))) = some r := by rw [if_neg (show ¬ (false = true) by decide)] at H; exact H
        clear H
        have H := H1
        clear H1
        by_cases c5 : a0 ≥ 97
        · rw [if_pos c5] at H
          have c5b0 : decide (97 ≤ a0) = true := decide_eq_true c5
          clear c5
          by_cases c6 : a0 ≤ 102
          · rw [if_pos c6] at H
            have c6b0 : decide (a0 ≤ 102) = true := decide_eq_true c6
            clear c6
            obtain rfl := Option.some.inj H
            go_wp2
            go_ret
            exact ⟨by first | rfl | (simp; done) | (simp [*]; done), by repeat (first | exact Drawn0.refl _ | apply Drawn0.step)⟩
          · rw [if_neg c6] at H
            have c6b0 : decide (a0 ≤ 102) = false := decide_eq_false c6
            clear c6
            obtain rfl := Option.some.inj H
            go_wp2
            go_ret
            exact ⟨by first | rfl | (simp; done) | (simp [*]; done), by repeat (first | exact Drawn0.refl _ | apply Drawn0.step)⟩
        · rw [if_neg c5] at H
          have c5b0 : decide (97 ≤ a0) = false := decide_eq_false c5
          clear c5
          obtain rfl := Option.some.inj H
          go_wp2
          go_ret
          exact ⟨by first | rfl | (simp; done) | (simp [*]; done), by repeat (first | exact Drawn0.refl _ | apply Drawn0.step)⟩

/-! ### footwayref01_Parse: function 30 -/
def footwayref01_Parse.l0 : Nat → ByteArray → Int → Int → Option (Int × Int)
  | 0, _, _, _ => none
  | k + 1, x0, x4, x5 => if x5 < 17 then (if (Int.tmod x5 3) = 2 then (if 0 ≤ x5 then (if x5 < (x0.size : Int) then (if (bt x0 x5) = 58 then (footwayref01_Parse.l0 k x0 x4 (wrap64 (x5 + 1))) else (some (0, 9))) else (none)) else (none)) else (if 0 ≤ x5 then (if x5 < (x0.size : Int) then ((footwayref01_value.f k (bt x0 x5)).bind fun t101 => (if t101 < 0 then (some (0, 9)) else ((footwayref01_value.f k (bt x0 x5)).bind fun t102 => (footwayref01_Parse.l0 k x0 (wrap64 ((wrap64 (16 * x4)) + t102)) (wrap64 (x5 + 1)))))) else (none)) else (none))) else (some (x4, 0))
def footwayref01_Parse.f (k : Nat) (a0 : ByteArray) : Option (Int × Int) := if (a0.size : Int) < 17 then (some (0, 7)) else (if (a0.size : Int) > 17 then (some (0, 8)) else (footwayref01_Parse.l0 k a0 0 0))
theorem footwayref01_Parse.mono_l : ∀ k, (∀ y0 y1 y2, LeO (footwayref01_Parse.l0 k y0 y1 y2) (footwayref01_Parse.l0 (k + 1) y0 y1 y2))
  | 0 => fun _ _ _ r h => by simp [footwayref01_Parse.l0] at h
  | k + 1 => by
    have ih0 := footwayref01_Parse.mono_l k
    · intro y0 y1 y2
      unfold footwayref01_Parse.l0
      repeat' first
      | (with_reducible exact ih0 _ _ _)
      | (with_reducible exact footwayref01_value.mono _ _)
      | (with_reducible exact LeO.refl _)
      | (with_reducible exact LeO.none _)
      | (with_reducible refine LeO.ite ?_ ?_)
      | (with_reducible refine LeO.bind ?_ (fun _ => ?_))
      | exact ih0 _ _ _
      | exact footwayref01_value.mono _ _
      | exact LeO.none _
      | refine LeO.ite ?_ ?_
      | refine LeO.bind ?_ (fun _ => ?_)
theorem footwayref01_Parse.mono : ∀ a0 k, LeO (footwayref01_Parse.f k a0) (footwayref01_Parse.f (k + 1) a0) := by
  intro a0 k
  have ih0 := footwayref01_Parse.mono_l k
  unfold footwayref01_Parse.f
  repeat' first
      | (with_reducible exact ih0 _ _ _)
      | (with_reducible exact footwayref01_value.mono _ _)
      | (with_reducible exact LeO.refl _)
      | (with_reducible exact LeO.none _)
      | (with_reducible refine LeO.ite ?_ ?_)
      | (with_reducible refine LeO.bind ?_ (fun _ => ?_))
      | exact ih0 _ _ _
      | exact footwayref01_value.mono _ _
      | exact LeO.none _
      | refine LeO.ite ?_ ?_
      | refine LeO.bind ?_ (fun _ => ?_)
set_option maxHeartbeats 8000000 in
set_option maxRecDepth 100000 in
theorem footwayref01_Parse.calls (k : Nat) (a0 : ByteArray) (r1 : Int) (r2 : Int) (w : World) (h : footwayref01_Parse.f k a0 = some (r1, r2)) :
    Calls Try.prog 30 #[.string a0] w fun e w' => e = .returned (.tuple #[.int .i64 r1, .int .i64 r2]) ∧ Drawn0 w w' := by
  have H : (if (a0.size : Int) < 17 then (some (0, 7)) else (if (a0.size : Int) > 17 then (some (0, 8)) else (footwayref01_Parse.l0 k a0 0 0))) = some (r1, r2) := h
  clear h
  by_cases c2 : (a0.size : Int) < 17
  · rw [if_pos c2] at H
    have c2b0 : decide ((a0.size : Int) < 17) = true := decide_eq_true c2
    have c2b1 : decide (a0.size < 17) = true := decide_eq_true (by omega)
    clear c2
    simp only [Option.some.injEq, Prod.mk.injEq] at H
    obtain ⟨rfl, rfl⟩ := H
    go_enter Try.func30, Try.ntmps30
    go_wp2
    go_ret2
    exact ⟨by first | rfl | (simp; done) | (simp [*]; done), by repeat (first | exact Drawn0.refl _ | apply Drawn0.step)⟩
  · rw [if_neg c2] at H
    have c2b0 : decide ((a0.size : Int) < 17) = false := decide_eq_false c2
    have c2b1 : decide (a0.size < 17) = false := decide_eq_false (by omega)
    clear c2
    by_cases c3 : (a0.size : Int) > 17
    · rw [if_pos c3] at H
      have c3b0 : decide (17 < (a0.size : Int)) = true := decide_eq_true c3
      have c3b1 : decide (17 < a0.size) = true := decide_eq_true (by omega)
      clear c3
      simp only [Option.some.injEq, Prod.mk.injEq] at H
      obtain ⟨rfl, rfl⟩ := H
      go_enter Try.func30, Try.ntmps30
      go_wp2
      go_ret2
      exact ⟨by first | rfl | (simp; done) | (simp [*]; done), by repeat (first | exact Drawn0.refl _ | apply Drawn0.step)⟩
    · rw [if_neg c3] at H
      have c3b0 : decide (17 < (a0.size : Int)) = false := decide_eq_false c3
      have c3b1 : decide (17 < a0.size) = false := decide_eq_false (by omega)
      clear c3
      have H' := Aside0.mk H
      clear H
      go_enter Try.func30, Try.ntmps30
      go_wp2
      go_loopg [4, 5] k (fun kq v4 v5 w' => ∃ (x4_1 : Int) (x5_1 : Int), v4 = .int .i64 x4_1 ∧ v5 = .int .i64 x5_1 ∧ Aside0 (footwayref01_Parse.l0 kq a0 x4_1 x5_1 = some (r1, r2)) ∧ Aside0 (kq ≤ k) ∧ Drawn0 w w')
      case atStart => exact ⟨(0), (0), (by first | rfl | (simp; done) | (simp [*]; done)), (by first | rfl | (simp; done) | (simp [*]; done)), H', ⟨Nat.le_refl _⟩, by repeat (first | exact Drawn0.refl _ | apply Drawn0.step)⟩
      case round =>
        clear H'
        try clear c2
        try clear c2b0
        try clear c2b1
        try clear p2
        try clear c3
        try clear c3b0
        try clear c3b1
        obtain ⟨x4_1, x5_1, rfl, rfl, HA, HK1, ⟨m1, rfl⟩⟩ := hrel
        cases gk with
        | zero => exact absurd HA.out (by simp [footwayref01_Parse.l0])
        | succ k1 =>
          have H := HA.out
          clear HA
          simp only [footwayref01_Parse.l0] at H
          by_cases c4 : x5_1 < 17
          · rw [if_pos c4] at H
            have c4b0 : decide (x5_1 < 17) = true := decide_eq_true c4
            clear c4
            by_cases c5 : (Int.tmod x5_1 3) = 2
            · rw [if_pos c5] at H
              have c5b0 : ((Int.tmod x5_1 3) == 2) = true := beq_iff_eq.mpr c5
              have c5b1 : ((Int.tmod x5_1 3) != 2) = false := bne_eq_false_iff_eq.mpr c5
              clear c5
              by_cases c6 : 0 ≤ x5_1
              · rw [if_pos c6] at H
                have c6b0 : decide (0 ≤ x5_1) = true := decide_eq_true c6
                clear c6
                by_cases c7 : x5_1 < (a0.size : Int)
                · rw [if_pos c7] at H
                  have c7b0 : decide (x5_1 < (a0.size : Int)) = true := decide_eq_true c7
                  clear c7
                  by_cases c9 : (bt a0 x5_1) = 58
                  · rw [if_pos c9] at H
                    have c9b0 : ((bt a0 x5_1) == 58) = true := beq_iff_eq.mpr c9
                    have c9b1 : ((bt a0 x5_1) != 58) = false := bne_eq_false_iff_eq.mpr c9
                    clear c9
                    have H' := Aside0.mk H
                    clear H
                    have p8 : 0 ≤ (x5_1 : Int) := of_decide_eq_true (by first | (with_reducible assumption) | assumption)
                    have q8 : x5_1 < (a0.size : Int) := of_decide_eq_true (by first | (with_reducible assumption) | assumption)
                    have hx8 := bt_at a0 x5_1
                    replace p8 := eq_true p8
                    replace q8 := eq_true q8
                    go_wp2
                    go_roundg k1
                    case measure => have := HK1.out; omega
                    case rel => exact ⟨(x4_1), (wrap64 (x5_1 + 1)), (by first | rfl | (simp; done) | (simp [*]; done)), (by first | rfl | (simp; done) | (simp [*]; done)), H', ⟨by have := HK1.out; omega⟩, by repeat (first | exact Drawn0.refl _ | apply Drawn0.step)⟩
                  · rw [if_neg c9] at H
                    have c9b0 : ((bt a0 x5_1) == 58) = false := beq_eq_false_iff_ne.mpr c9
                    have c9b1 : ((bt a0 x5_1) != 58) = true := bne_iff_ne.mpr c9
                    simp only [Option.some.injEq, Prod.mk.injEq] at H
                    obtain ⟨rfl, rfl⟩ := H
                    have p8 : 0 ≤ (x5_1 : Int) := of_decide_eq_true (by first | (with_reducible assumption) | assumption)
                    have q8 : x5_1 < (a0.size : Int) := of_decide_eq_true (by first | (with_reducible assumption) | assumption)
                    have hx8 := bt_at a0 x5_1
                    replace p8 := eq_true p8
                    replace q8 := eq_true q8
                    go_wp2
                    go_ret2
                    exact ⟨by first | rfl | (simp; done) | (simp [*]; done), by repeat (first | exact Drawn0.refl _ | apply Drawn0.step)⟩
                · rw [if_neg c7] at H
                  exact absurd H (by simp)
              · rw [if_neg c6] at H
                exact absurd H (by simp)
            · rw [if_neg c5] at H
              have c5b0 : ((Int.tmod x5_1 3) == 2) = false := beq_eq_false_iff_ne.mpr c5
              have c5b1 : ((Int.tmod x5_1 3) != 2) = true := bne_iff_ne.mpr c5
              by_cases c10 : 0 ≤ x5_1
              · rw [if_pos c10] at H
                have c10b0 : decide (0 ≤ x5_1) = true := decide_eq_true c10
                clear c10
                by_cases c11 : x5_1 < (a0.size : Int)
                · rw [if_pos c11] at H
                  have c11b0 : decide (x5_1 < (a0.size : Int)) = true := decide_eq_true c11
                  clear c11
                  replace H := Option.bind_eq_some_iff.mp H
                  obtain ⟨t101, A130, H⟩ := H
                  replace H : (if t101 < 0 then (some (0, 9)) else ((footwayref01_value.f k1 (bt a0 x5_1)).bind fun t102 => (footwayref01_Parse.l0 k1 a0 (wrap64 ((wrap64 (16 * x4_1)) + t102)) (wrap64 (x5_1 + 1))))) = some (r1, r2) := H
                  have A13 := Aside0.mk A130
                  clear A130
                  by_cases c14 : t101 < 0
                  · rw [if_pos c14] at H
                    have c14b0 : decide (t101 < 0) = true := decide_eq_true c14
                    clear c14
                    simp only [Option.some.injEq, Prod.mk.injEq] at H
                    obtain ⟨rfl, rfl⟩ := H
                    have p12 : 0 ≤ (x5_1 : Int) := of_decide_eq_true (by first | (with_reducible assumption) | assumption)
                    have q12 : x5_1 < (a0.size : Int) := of_decide_eq_true (by first | (with_reducible assumption) | assumption)
                    have hx12 := bt_at a0 x5_1
                    replace p12 := eq_true p12
                    replace q12 := eq_true q12
                    go_wp2_with (first | ((with_reducible refine gate_callee (f := 64) rfl ?_); refine goesL_ (some 26) rfl rfl Try.func64 (by kernel_rfl) rfl #[.int .u8 (bt a0 x5_1)] rfl (by (try simp only [List.map_toArray, List.map_cons, List.map_nil]); first | done | rfl | (simp only [List.length_drop, List.length_take]; rfl)) ?_; (with_reducible refine (footwayref01_value.calls k1 (bt a0 x5_1) t101 _ A13.out).mono ?_); rintro e w' ⟨rfl, ⟨nd, rfl⟩⟩; refine ⟨_, rfl, ?_⟩))
                    go_ret2
                    exact ⟨by first | rfl | (simp; done) | (simp [*]; done), by repeat (first | exact Drawn0.refl _ | apply Drawn0.step)⟩
                  · rw [if_neg c14] at H
                    have c14b0 : decide (t101 < 0) = false := decide_eq_false c14
                    clear c14
                    replace H := Option.bind_eq_some_iff.mp H
                    obtain ⟨t102, A160, H⟩ := H
                    replace H : (footwayref01_Parse.l0 k1 a0 (wrap64 ((wrap64 (16 * x4_1)) + t102)) (wrap64 (x5_1 + 1))) = some (r1, r2) := H
                    have A16 := Aside0.mk A160
                    clear A160
                    have H' := Aside0.mk H
                    clear H
                    have p12 : 0 ≤ (x5_1 : Int) := of_decide_eq_true (by first | (with_reducible assumption) | assumption)
                    have q12 : x5_1 < (a0.size : Int) := of_decide_eq_true (by first | (with_reducible assumption) | assumption)
                    have hx12 := bt_at a0 x5_1
                    replace p12 := eq_true p12
                    replace q12 := eq_true q12
                    go_wp2_with (first | ((with_reducible refine gate_callee (f := 64) rfl ?_); refine goesL_ (some 26) rfl rfl Try.func64 (by kernel_rfl) rfl #[.int .u8 (bt a0 x5_1)] rfl (by (try simp only [List.map_toArray, List.map_cons, List.map_nil]); first | done | rfl | (simp only [List.length_drop, List.length_take]; rfl)) ?_; (with_reducible refine (footwayref01_value.calls k1 (bt a0 x5_1) t101 _ A13.out).mono ?_); rintro e w' ⟨rfl, ⟨nd, rfl⟩⟩; refine ⟨_, rfl, ?_⟩; have p15 : 0 ≤ (x5_1 : Int) := of_decide_eq_true (by first | (with_reducible assumption) | assumption); have q15 : x5_1 < (a0.size : Int) := of_decide_eq_true (by first | (with_reducible assumption) | assumption); have hx15 := bt_at a0 x5_1; replace p15 := eq_true p15; replace q15 := eq_true q15) | ((with_reducible refine gate_callee (f := 64) rfl ?_); refine goesL_ (some 33) rfl rfl Try.func64 (by kernel_rfl) rfl #[.int .u8 (bt a0 x5_1)] rfl (by (try simp only [List.map_toArray, List.map_cons, List.map_nil]); first | done | rfl | (simp only [List.length_drop, List.length_take]; rfl)) ?_; (with_reducible refine (footwayref01_value.calls k1 (bt a0 x5_1) t102 _ A16.out).mono ?_); rintro e w' ⟨rfl, ⟨nd, rfl⟩⟩; refine ⟨_, rfl, ?_⟩))
                    go_roundg k1
                    case measure => have := HK1.out; omega
                    case rel => exact ⟨(wrap64 ((wrap64 (16 * x4_1)) + t102)), (wrap64 (x5_1 + 1)), (by first | rfl | (simp; done) | (simp [*]; done)), (by first | rfl | (simp; done) | (simp [*]; done)), H', ⟨by have := HK1.out; omega⟩, by repeat (first | exact Drawn0.refl _ | apply Drawn0.step)⟩
                · rw [if_neg c11] at H
                  exact absurd H (by simp)
              · rw [if_neg c10] at H
                exact absurd H (by simp)
          · rw [if_neg c4] at H
            have c4b0 : decide (x5_1 < 17) = false := decide_eq_false c4
            clear c4
            simp only [Option.some.injEq, Prod.mk.injEq] at H
            obtain ⟨rfl, rfl⟩ := H
            go_wp2
            go_ret2
            exact ⟨by first | rfl | (simp; done) | (simp [*]; done), by repeat (first | exact Drawn0.refl _ | apply Drawn0.step)⟩

-- by hand: function 21 (mac_Class)

/-! ### footwaylaw01_alive: function 31 -/
def footwaylaw01_alive.f  : Option (Bool) := (mac_Parse.f (⟨#[48, 49, 58, 56, 48, 58, 99, 50, 58, 48, 48, 58, 48, 48, 58, 48, 102]⟩ : ByteArray)).bind fun bt103 => ((mac_Class.f bt103.1).bind fun bt105 => (if bt103.2 = 0 then (if bt105.2 = 0 then (if bt103.1 = 1652522221583 then (some (bt105.1 == 2)) else (some false)) else (some false)) else (some false)))
set_option maxHeartbeats 8000000 in
set_option maxRecDepth 100000 in
theorem footwaylaw01_alive.calls  (r : Bool) (w : World) (h : footwaylaw01_alive.f  = some r) :
    Calls Try.prog 31 #[] w fun e w' => e = .returned (.bool r) ∧ Below w.heap.size w w' := by
  have HB := Aside0.mk (Below.refl w.heap.size w)
  have H : ((mac_Parse.f (⟨#[48, 49, 58, 56, 48, 58, 99, 50, 58, 48, 48, 58, 48, 48, 58, 48, 102]⟩ : ByteArray)).bind fun bt103 => ((mac_Class.f bt103.1).bind fun bt105 => (if bt103.2 = 0 then (if bt105.2 = 0 then (if bt103.1 = 1652522221583 then (some (bt105.1 == 2)) else (some false)) else (some false)) else (some false)))) = some r := h
  clear h
  replace H := Option.bind_eq_some_iff.mp H
  obtain ⟨⟨t103, t104⟩, A10, H⟩ := H
  replace H : ((mac_Class.f t103).bind fun bt105 => (if t104 = 0 then (if bt105.2 = 0 then (if t103 = 1652522221583 then (some (bt105.1 == 2)) else (some false)) else (some false)) else (some false))) = some r := H
  have A1 := Aside0.mk A10
  clear A10
  replace H := Option.bind_eq_some_iff.mp H
  obtain ⟨⟨t105, t106⟩, A20, H⟩ := H
  replace H : (if t104 = 0 then (if t106 = 0 then (if t103 = 1652522221583 then (some (t105 == 2)) else (some false)) else (some false)) else (some false)) = some r := H
  have A2 := Aside0.mk A20
  clear A20
  by_cases c3 : t104 = 0
  · rw [if_pos c3] at H
    have c3b0 : (t104 == 0) = true := beq_iff_eq.mpr c3
    have c3b1 : (t104 != 0) = false := bne_eq_false_iff_eq.mpr c3
    clear c3
    by_cases c4 : t106 = 0
    · rw [if_pos c4] at H
      have c4b0 : (t106 == 0) = true := beq_iff_eq.mpr c4
      have c4b1 : (t106 != 0) = false := bne_eq_false_iff_eq.mpr c4
      clear c4
      by_cases c5 : t103 = 1652522221583
      · rw [if_pos c5] at H
        have c5b0 : (t103 == 1652522221583) = true := beq_iff_eq.mpr c5
        have c5b1 : (t103 != 1652522221583) = false := bne_eq_false_iff_eq.mpr c5
        clear c5
        obtain rfl := Option.some.inj H
        go_enter Try.func31, Try.ntmps31
        go_wp2_with (first | ((with_reducible refine gate_callee (f := 29) rfl ?_); refine goesL_ (some 6) rfl rfl Try.func29 (by kernel_rfl) rfl #[.string (⟨#[48, 49, 58, 56, 48, 58, 99, 50, 58, 48, 48, 58, 48, 48, 58, 48, 102]⟩ : ByteArray)] rfl (by (try simp only [List.map_toArray, List.map_cons, List.map_nil]); first | done | rfl | (simp only [List.length_drop, List.length_take]; rfl)) ?_; (with_reducible refine (mac_Parse.calls (⟨#[48, 49, 58, 56, 48, 58, 99, 50, 58, 48, 48, 58, 48, 48, 58, 48, 102]⟩ : ByteArray) t103 t104 _ A1.out).mono ?_); rintro e w6 ⟨rfl, hb⟩; refine ⟨_, rfl, ?_⟩; have n0_ := Aside0.mk (below_step (by repeat (first | (with_reducible first | exact HB.out | apply below_alloc | apply pw_below_drewN | apply below_drew1) | exact HB.out)) hb); clear HB; have HB := n0_; clear n0_; (try clear hb); (try clear hb2); (try clear hk); (try clear hi)) | ((with_reducible refine gate_callee (f := 21) rfl ?_); refine goesL_ (some 11) rfl rfl Try.func21 (by kernel_rfl) rfl #[.int .i64 t103] rfl (by (try simp only [List.map_toArray, List.map_cons, List.map_nil]); first | done | rfl | (simp only [List.length_drop, List.length_take]; rfl)) ?_; (with_reducible refine (mac_Class.calls t103 t105 t106 _ A2.out).mono ?_); rintro e w' ⟨rfl, ⟨nd, rfl⟩⟩; refine ⟨_, rfl, ?_⟩))
        go_ret
        exact ⟨by first | rfl | (simp [errW_none, errW_some] <;> rfl) | (simp [*, errW_none, errW_some] <;> rfl), by repeat (first | (with_reducible first | exact HB.out | apply below_alloc | apply pw_below_drewN | apply below_drew1) | exact HB.out)⟩
      · rw [if_neg c5] at H
        have c5b0 : (t103 == 1652522221583) = false := beq_eq_false_iff_ne.mpr c5
        have c5b1 : (t103 != 1652522221583) = true := bne_iff_ne.mpr c5
        obtain rfl := Option.some.inj H
        go_enter Try.func31, Try.ntmps31
        go_wp2_with (first | ((with_reducible refine gate_callee (f := 29) rfl ?_); refine goesL_ (some 6) rfl rfl Try.func29 (by kernel_rfl) rfl #[.string (⟨#[48, 49, 58, 56, 48, 58, 99, 50, 58, 48, 48, 58, 48, 48, 58, 48, 102]⟩ : ByteArray)] rfl (by (try simp only [List.map_toArray, List.map_cons, List.map_nil]); first | done | rfl | (simp only [List.length_drop, List.length_take]; rfl)) ?_; (with_reducible refine (mac_Parse.calls (⟨#[48, 49, 58, 56, 48, 58, 99, 50, 58, 48, 48, 58, 48, 48, 58, 48, 102]⟩ : ByteArray) t103 t104 _ A1.out).mono ?_); rintro e w7 ⟨rfl, hb⟩; refine ⟨_, rfl, ?_⟩; have n0_ := Aside0.mk (below_step (by repeat (first | (with_reducible first | exact HB.out | apply below_alloc | apply pw_below_drewN | apply below_drew1) | exact HB.out)) hb); clear HB; have HB := n0_; clear n0_; (try clear hb); (try clear hb2); (try clear hk); (try clear hi)) | ((with_reducible refine gate_callee (f := 21) rfl ?_); refine goesL_ (some 11) rfl rfl Try.func21 (by kernel_rfl) rfl #[.int .i64 t103] rfl (by (try simp only [List.map_toArray, List.map_cons, List.map_nil]); first | done | rfl | (simp only [List.length_drop, List.length_take]; rfl)) ?_; (with_reducible refine (mac_Class.calls t103 t105 t106 _ A2.out).mono ?_); rintro e w' ⟨rfl, ⟨nd, rfl⟩⟩; refine ⟨_, rfl, ?_⟩))
        go_ret
        exact ⟨by first | rfl | (simp [errW_none, errW_some] <;> rfl) | (simp [*, errW_none, errW_some] <;> rfl), by repeat (first | (with_reducible first | exact HB.out | apply below_alloc | apply pw_below_drewN | apply below_drew1) | exact HB.out)⟩
    · rw [if_neg c4] at H
      have c4b0 : (t106 == 0) = false := beq_eq_false_iff_ne.mpr c4
      have c4b1 : (t106 != 0) = true := bne_iff_ne.mpr c4
      obtain rfl := Option.some.inj H
      go_enter Try.func31, Try.ntmps31
      go_wp2_with (first | ((with_reducible refine gate_callee (f := 29) rfl ?_); refine goesL_ (some 6) rfl rfl Try.func29 (by kernel_rfl) rfl #[.string (⟨#[48, 49, 58, 56, 48, 58, 99, 50, 58, 48, 48, 58, 48, 48, 58, 48, 102]⟩ : ByteArray)] rfl (by (try simp only [List.map_toArray, List.map_cons, List.map_nil]); first | done | rfl | (simp only [List.length_drop, List.length_take]; rfl)) ?_; (with_reducible refine (mac_Parse.calls (⟨#[48, 49, 58, 56, 48, 58, 99, 50, 58, 48, 48, 58, 48, 48, 58, 48, 102]⟩ : ByteArray) t103 t104 _ A1.out).mono ?_); rintro e w8 ⟨rfl, hb⟩; refine ⟨_, rfl, ?_⟩; have n0_ := Aside0.mk (below_step (by repeat (first | (with_reducible first | exact HB.out | apply below_alloc | apply pw_below_drewN | apply below_drew1) | exact HB.out)) hb); clear HB; have HB := n0_; clear n0_; (try clear hb); (try clear hb2); (try clear hk); (try clear hi)) | ((with_reducible refine gate_callee (f := 21) rfl ?_); refine goesL_ (some 11) rfl rfl Try.func21 (by kernel_rfl) rfl #[.int .i64 t103] rfl (by (try simp only [List.map_toArray, List.map_cons, List.map_nil]); first | done | rfl | (simp only [List.length_drop, List.length_take]; rfl)) ?_; (with_reducible refine (mac_Class.calls t103 t105 t106 _ A2.out).mono ?_); rintro e w' ⟨rfl, ⟨nd, rfl⟩⟩; refine ⟨_, rfl, ?_⟩))
      go_ret
      exact ⟨by first | rfl | (simp [errW_none, errW_some] <;> rfl) | (simp [*, errW_none, errW_some] <;> rfl), by repeat (first | (with_reducible first | exact HB.out | apply below_alloc | apply pw_below_drewN | apply below_drew1) | exact HB.out)⟩
  · rw [if_neg c3] at H
    have c3b0 : (t104 == 0) = false := beq_eq_false_iff_ne.mpr c3
    have c3b1 : (t104 != 0) = true := bne_iff_ne.mpr c3
    obtain rfl := Option.some.inj H
    go_enter Try.func31, Try.ntmps31
    go_wp2_with (first | ((with_reducible refine gate_callee (f := 29) rfl ?_); refine goesL_ (some 6) rfl rfl Try.func29 (by kernel_rfl) rfl #[.string (⟨#[48, 49, 58, 56, 48, 58, 99, 50, 58, 48, 48, 58, 48, 48, 58, 48, 102]⟩ : ByteArray)] rfl (by (try simp only [List.map_toArray, List.map_cons, List.map_nil]); first | done | rfl | (simp only [List.length_drop, List.length_take]; rfl)) ?_; (with_reducible refine (mac_Parse.calls (⟨#[48, 49, 58, 56, 48, 58, 99, 50, 58, 48, 48, 58, 48, 48, 58, 48, 102]⟩ : ByteArray) t103 t104 _ A1.out).mono ?_); rintro e w9 ⟨rfl, hb⟩; refine ⟨_, rfl, ?_⟩; have n0_ := Aside0.mk (below_step (by repeat (first | (with_reducible first | exact HB.out | apply below_alloc | apply pw_below_drewN | apply below_drew1) | exact HB.out)) hb); clear HB; have HB := n0_; clear n0_; (try clear hb); (try clear hb2); (try clear hk); (try clear hi)) | ((with_reducible refine gate_callee (f := 21) rfl ?_); refine goesL_ (some 11) rfl rfl Try.func21 (by kernel_rfl) rfl #[.int .i64 t103] rfl (by (try simp only [List.map_toArray, List.map_cons, List.map_nil]); first | done | rfl | (simp only [List.length_drop, List.length_take]; rfl)) ?_; (with_reducible refine (mac_Class.calls t103 t105 t106 _ A2.out).mono ?_); rintro e w' ⟨rfl, ⟨nd, rfl⟩⟩; refine ⟨_, rfl, ?_⟩))
    go_ret
    exact ⟨by first | rfl | (simp [errW_none, errW_some] <;> rfl) | (simp [*, errW_none, errW_some] <;> rfl), by repeat (first | (with_reducible first | exact HB.out | apply below_alloc | apply pw_below_drewN | apply below_drew1) | exact HB.out)⟩

-- by hand: function 32 (footwayref01_Of)

/-! ### footwaylaw01_MacReads: function 6 -/
def footwaylaw01_MacReads.j0 : Nat → ByteArray → Int → Int → Bool → Option (Bool)
  | 0, _, _, _, _ => none
  | k + 1, x0, x5, x6, x47 => if x47 = true then (some false) else (if (x0.size : Int) < 6 then (if x6 = 7 then (some (x5 == 0)) else (some false)) else (if (x0.size : Int) > 6 then (if x6 = 8 then (some (x5 == 0)) else (some false)) else (if x6 = 0 then ((footwayref01_Of.f k x0).bind fun t114 => (some (x5 == t114))) else (some false))))
def footwaylaw01_MacReads.f (k : Nat) (a0 : ByteArray) (a1 : ByteArray) : Option (Bool) := if 0 ≤ (mn (a0.size : Int) 20) then (if (mn (a0.size : Int) 20) ≤ (a0.size : Int) then (if 0 ≤ (mn (a1.size : Int) 30) then (if (mn (a1.size : Int) 30) ≤ (a1.size : Int) then ((mac_Of.f k (a0.extract 0 ((mn (a0.size : Int) 20) : Int).toNat)).bind fun bt107 => ((mac_Parse.f (a1.extract 0 ((mn (a1.size : Int) 30) : Int).toNat)).bind fun bt109 => ((footwayref01_Parse.f k (a1.extract 0 ((mn (a1.size : Int) 30) : Int).toNat)).bind fun bt111 => (if bt109.1 = bt111.1 then (if bt109.2 = bt111.2 then ((footwaylaw01_alive.f).bind fun t113 => (footwaylaw01_MacReads.j0 k (a0.extract 0 ((mn (a0.size : Int) 20) : Int).toNat) bt107.1 bt107.2 (!t113))) else (footwaylaw01_MacReads.j0 k (a0.extract 0 ((mn (a0.size : Int) 20) : Int).toNat) bt107.1 bt107.2 true)) else (footwaylaw01_MacReads.j0 k (a0.extract 0 ((mn (a0.size : Int) 20) : Int).toNat) bt107.1 bt107.2 true))))) else (none)) else (none)) else (none)) else (none)
theorem footwaylaw01_MacReads.mono_l : ∀ k, (∀ y0 y1 y2 y3, LeO (footwaylaw01_MacReads.j0 k y0 y1 y2 y3) (footwaylaw01_MacReads.j0 (k + 1) y0 y1 y2 y3))
  | 0 => fun _ _ _ _ r h => by simp [footwaylaw01_MacReads.j0] at h
  | k + 1 => by
    have ih0 := footwaylaw01_MacReads.mono_l k
    · intro y0 y1 y2 y3
      unfold footwaylaw01_MacReads.j0
      repeat' first
      | (with_reducible exact ih0 _ _ _ _)
      | (with_reducible exact footwayref01_Of.mono _ _)
      | (with_reducible exact footwayref01_Parse.mono _ _)
      | (with_reducible exact mac_Of.mono _ _)
      | (with_reducible exact LeO.refl _)
      | (with_reducible exact LeO.none _)
      | (with_reducible refine LeO.ite ?_ ?_)
      | (with_reducible refine LeO.bind ?_ (fun _ => ?_))
      | exact ih0 _ _ _ _
      | exact footwayref01_Of.mono _ _
      | exact footwayref01_Parse.mono _ _
      | exact mac_Of.mono _ _
      | exact LeO.none _
      | refine LeO.ite ?_ ?_
      | refine LeO.bind ?_ (fun _ => ?_)
theorem footwaylaw01_MacReads.mono : ∀ a0 a1 k, LeO (footwaylaw01_MacReads.f k a0 a1) (footwaylaw01_MacReads.f (k + 1) a0 a1) := by
  intro a0 a1 k
  have ih0 := footwaylaw01_MacReads.mono_l k
  unfold footwaylaw01_MacReads.f
  repeat' first
      | (with_reducible exact ih0 _ _ _ _)
      | (with_reducible exact footwayref01_Of.mono _ _)
      | (with_reducible exact footwayref01_Parse.mono _ _)
      | (with_reducible exact mac_Of.mono _ _)
      | (with_reducible exact LeO.refl _)
      | (with_reducible exact LeO.none _)
      | (with_reducible refine LeO.ite ?_ ?_)
      | (with_reducible refine LeO.bind ?_ (fun _ => ?_))
      | exact ih0 _ _ _ _
      | exact footwayref01_Of.mono _ _
      | exact footwayref01_Parse.mono _ _
      | exact mac_Of.mono _ _
      | exact LeO.none _
      | refine LeO.ite ?_ ?_
      | refine LeO.bind ?_ (fun _ => ?_)
set_option maxHeartbeats 8000000 in
set_option maxRecDepth 100000 in
theorem footwaylaw01_MacReads.calls (k : Nat) (a0 : ByteArray) (a1 : ByteArray) (r : Bool) (w : World) (h : footwaylaw01_MacReads.f k a0 a1 = some r) :
    Calls Try.prog 6 #[.string a0, .string a1] w fun e w' => e = .returned (.bool r) ∧ Below w.heap.size w w' := by
  have HB := Aside0.mk (Below.refl w.heap.size w)
  have H : (if 0 ≤ (mn (a0.size : Int) 20) then (if (mn (a0.size : Int) 20) ≤ (a0.size : Int) then (if 0 ≤ (mn (a1.size : Int) 30) then (if (mn (a1.size : Int) 30) ≤ (a1.size : Int) then ((mac_Of.f k (a0.extract 0 ((mn (a0.size : Int) 20) : Int).toNat)).bind fun bt107 => ((mac_Parse.f (a1.extract 0 ((mn (a1.size : Int) 30) : Int).toNat)).bind fun bt109 => ((footwayref01_Parse.f k (a1.extract 0 ((mn (a1.size : Int) 30) : Int).toNat)).bind fun bt111 => (if bt109.1 = bt111.1 then (if bt109.2 = bt111.2 then ((footwaylaw01_alive.f).bind fun t113 => (footwaylaw01_MacReads.j0 k (a0.extract 0 ((mn (a0.size : Int) 20) : Int).toNat) bt107.1 bt107.2 (!t113))) else (footwaylaw01_MacReads.j0 k (a0.extract 0 ((mn (a0.size : Int) 20) : Int).toNat) bt107.1 bt107.2 true)) else (footwaylaw01_MacReads.j0 k (a0.extract 0 ((mn (a0.size : Int) 20) : Int).toNat) bt107.1 bt107.2 true))))) else (none)) else (none)) else (none)) else (none)) = some r := h
  clear h
  obtain ⟨ji3, hji3⟩ : ∃ j_ : Int, (mn (a0.size : Int) 20) = j_ := ⟨_, rfl⟩
  replace H : (if 0 ≤ (ji3) then (if (ji3) ≤ (a0.size : Int) then (if 0 ≤ (mn (a1.size : Int) 30) then (if (mn (a1.size : Int) 30) ≤ (a1.size : Int) then ((mac_Of.f k (a0.extract 0 ((ji3) : Int).toNat)).bind fun bt107 => ((mac_Parse.f (a1.extract 0 ((mn (a1.size : Int) 30) : Int).toNat)).bind fun bt109 => ((footwayref01_Parse.f k (a1.extract 0 ((mn (a1.size : Int) 30) : Int).toNat)).bind fun bt111 => (if bt109.1 = bt111.1 then (if bt109.2 = bt111.2 then ((footwaylaw01_alive.f).bind fun t113 => (footwaylaw01_MacReads.j0 k (a0.extract 0 ((ji3) : Int).toNat) bt107.1 bt107.2 (!t113))) else (footwaylaw01_MacReads.j0 k (a0.extract 0 ((ji3) : Int).toNat) bt107.1 bt107.2 true)) else (footwaylaw01_MacReads.j0 k (a0.extract 0 ((ji3) : Int).toNat) bt107.1 bt107.2 true))))) else (none)) else (none)) else (none)) else (none)) = some r := by first | (rw [hji3] at H; exact H) | (simp only [hji3] at H ⊢; exact H)
  (try (have hji3h : ji3 ≤ 20 := by (rw [← hji3]; unfold mn; (repeat' split) <;> omega)))
  (try (have hji3g : ji3 ≤ 64 := by omega))
  (try (have hji3l : 0 ≤ ji3 := by (rw [← hji3]; unfold mn; (repeat' split) <;> omega)))
  (try (have hji3m : 0 ≤ ji3 := by omega))
  have hji3_ : (if 20 < (a0.size : Int) then 20 else (a0.size : Int)) = ji3 := hji3
  by_cases c4 : 0 ≤ (ji3)
  · rw [if_pos c4] at H
    have c4b0 := eq_true c4
    have c4b1 : decide (0 ≤ (ji3)) = true := decide_eq_true c4
    clear c4
    by_cases c5 : (ji3) ≤ (a0.size : Int)
    · rw [if_pos c5] at H
      have c5b0 := eq_true c5
      have c5b1 : decide ((ji3) ≤ (a0.size : Int)) = true := decide_eq_true c5
      clear c5
      obtain ⟨ji6, hji6⟩ : ∃ j_ : Int, (mn (a1.size : Int) 30) = j_ := ⟨_, rfl⟩
      replace H : (if 0 ≤ (ji6) then (if (ji6) ≤ (a1.size : Int) then ((mac_Of.f k (a0.extract 0 ((ji3) : Int).toNat)).bind fun bt107 => ((mac_Parse.f (a1.extract 0 ((ji6) : Int).toNat)).bind fun bt109 => ((footwayref01_Parse.f k (a1.extract 0 ((ji6) : Int).toNat)).bind fun bt111 => (if bt109.1 = bt111.1 then (if bt109.2 = bt111.2 then ((footwaylaw01_alive.f).bind fun t113 => (footwaylaw01_MacReads.j0 k (a0.extract 0 ((ji3) : Int).toNat) bt107.1 bt107.2 (!t113))) else (footwaylaw01_MacReads.j0 k (a0.extract 0 ((ji3) : Int).toNat) bt107.1 bt107.2 true)) else (footwaylaw01_MacReads.j0 k (a0.extract 0 ((ji3) : Int).toNat) bt107.1 bt107.2 true))))) else (none)) else (none)) = some r := by first | (rw [hji6] at H; exact H) | (simp only [hji6] at H ⊢; exact H)
      (try (have hji6h : ji6 ≤ 30 := by (rw [← hji6]; unfold mn; (repeat' split) <;> omega)))
      (try (have hji6g : ji6 ≤ 64 := by omega))
      (try (have hji6l : 0 ≤ ji6 := by (rw [← hji6]; unfold mn; (repeat' split) <;> omega)))
      (try (have hji6m : 0 ≤ ji6 := by omega))
      have hji6_ : (if 30 < (a1.size : Int) then 30 else (a1.size : Int)) = ji6 := hji6
      by_cases c7 : 0 ≤ (ji6)
      · rw [if_pos c7] at H
        have c7b0 := eq_true c7
        have c7b1 : decide (0 ≤ (ji6)) = true := decide_eq_true c7
        clear c7
        by_cases c8 : (ji6) ≤ (a1.size : Int)
        · rw [if_pos c8] at H
          have c8b0 := eq_true c8
          have c8b1 : decide ((ji6) ≤ (a1.size : Int)) = true := decide_eq_true c8
          clear c8
          replace H := Option.bind_eq_some_iff.mp H
          obtain ⟨⟨t107, t108⟩, A90, H⟩ := H
          replace H : ((mac_Parse.f (a1.extract 0 ((ji6) : Int).toNat)).bind fun bt109 => ((footwayref01_Parse.f k (a1.extract 0 ((ji6) : Int).toNat)).bind fun bt111 => (if bt109.1 = bt111.1 then (if bt109.2 = bt111.2 then ((footwaylaw01_alive.f).bind fun t113 => (footwaylaw01_MacReads.j0 k (a0.extract 0 ((ji3) : Int).toNat) t107 t108 (!t113))) else (footwaylaw01_MacReads.j0 k (a0.extract 0 ((ji3) : Int).toNat) t107 t108 true)) else (footwaylaw01_MacReads.j0 k (a0.extract 0 ((ji3) : Int).toNat) t107 t108 true)))) = some r := H
          have A9 := Aside0.mk A90
          clear A90
          replace H := Option.bind_eq_some_iff.mp H
          obtain ⟨⟨t109, t110⟩, A100, H⟩ := H
          replace H : ((footwayref01_Parse.f k (a1.extract 0 ((ji6) : Int).toNat)).bind fun bt111 => (if t109 = bt111.1 then (if t110 = bt111.2 then ((footwaylaw01_alive.f).bind fun t113 => (footwaylaw01_MacReads.j0 k (a0.extract 0 ((ji3) : Int).toNat) t107 t108 (!t113))) else (footwaylaw01_MacReads.j0 k (a0.extract 0 ((ji3) : Int).toNat) t107 t108 true)) else (footwaylaw01_MacReads.j0 k (a0.extract 0 ((ji3) : Int).toNat) t107 t108 true))) = some r := H
          have A10 := Aside0.mk A100
          clear A100
          replace H := Option.bind_eq_some_iff.mp H
          obtain ⟨⟨t111, t112⟩, A110, H⟩ := H
          replace H : (if t109 = t111 then (if t110 = t112 then ((footwaylaw01_alive.f).bind fun t113 => (footwaylaw01_MacReads.j0 k (a0.extract 0 ((ji3) : Int).toNat) t107 t108 (!t113))) else (footwaylaw01_MacReads.j0 k (a0.extract 0 ((ji3) : Int).toNat) t107 t108 true)) else (footwaylaw01_MacReads.j0 k (a0.extract 0 ((ji3) : Int).toNat) t107 t108 true)) = some r := H
          have A11 := Aside0.mk A110
          clear A110
          have HC12 := Aside0.mk H
          clear H
          go_enter Try.func6, Try.ntmps6
          go_upto_region 5 with (first | (go_at_call 28; (with_reducible refine (mac_Of.calls k (a0.extract 0 ((ji3) : Int).toNat) t107 t108 _ A9.out).mono ?_); rintro e w' ⟨rfl, ⟨nd, rfl⟩⟩; (try first | exact ⟨rfl, _, World.drewN_drewN _ _ _⟩ | exact ⟨rfl, _, Eq.trans (World.drewN_drewN _ _ _) (congrArg (World.drewN _) (Nat.add_assoc _ _ _))⟩)) | (go_at_call 29; (with_reducible refine (mac_Parse.calls (a1.extract 0 ((ji6) : Int).toNat) t109 t110 _ A10.out).mono ?_); rintro e w13 ⟨rfl, hb⟩; have n0_ := Aside0.mk (below_step (by repeat (first | (with_reducible first | exact HB.out | apply below_alloc | apply pw_below_drewN | apply below_drew1) | exact HB.out)) hb); clear HB; have HB := n0_; clear n0_; (try clear hb); (try clear hb2); (try clear hk); (try clear hi)) | (go_at_call 30; (with_reducible refine (footwayref01_Parse.calls k (a1.extract 0 ((ji6) : Int).toNat) t111 t112 _ A11.out).mono ?_); rintro e w' ⟨rfl, ⟨nd, rfl⟩⟩; (try first | exact ⟨rfl, _, World.drewN_drewN _ _ _⟩ | exact ⟨rfl, _, Eq.trans (World.drewN_drewN _ _ _) (congrArg (World.drewN _) (Nat.add_assoc _ _ _))⟩)))
          repeat (go_quiet (first | (go_at_call 28; (with_reducible refine (mac_Of.calls k (a0.extract 0 ((ji3) : Int).toNat) t107 t108 _ A9.out).mono ?_); rintro e w' ⟨rfl, ⟨nd, rfl⟩⟩; (try first | exact ⟨rfl, _, World.drewN_drewN _ _ _⟩ | exact ⟨rfl, _, Eq.trans (World.drewN_drewN _ _ _) (congrArg (World.drewN _) (Nat.add_assoc _ _ _))⟩)) | (go_at_call 29; (with_reducible refine (mac_Parse.calls (a1.extract 0 ((ji6) : Int).toNat) t109 t110 _ A10.out).mono ?_); rintro e w13 ⟨rfl, hb⟩; have n0_ := Aside0.mk (below_step (by repeat (first | (with_reducible first | exact HB.out | apply below_alloc | apply pw_below_drewN | apply below_drew1) | exact HB.out)) hb); clear HB; have HB := n0_; clear n0_; (try clear hb); (try clear hb2); (try clear hk); (try clear hi)) | (go_at_call 30; (with_reducible refine (footwayref01_Parse.calls k (a1.extract 0 ((ji6) : Int).toNat) t111 t112 _ A11.out).mono ?_); rintro e w' ⟨rfl, ⟨nd, rfl⟩⟩; (try first | exact ⟨rfl, _, World.drewN_drewN _ _ _⟩ | exact ⟨rfl, _, Eq.trans (World.drewN_drewN _ _ _) (congrArg (World.drewN _) (Nat.add_assoc _ _ _))⟩))); go_upto_region 5 with (first | (go_at_call 28; (with_reducible refine (mac_Of.calls k (a0.extract 0 ((ji3) : Int).toNat) t107 t108 _ A9.out).mono ?_); rintro e w' ⟨rfl, ⟨nd, rfl⟩⟩; (try first | exact ⟨rfl, _, World.drewN_drewN _ _ _⟩ | exact ⟨rfl, _, Eq.trans (World.drewN_drewN _ _ _) (congrArg (World.drewN _) (Nat.add_assoc _ _ _))⟩)) | (go_at_call 29; (with_reducible refine (mac_Parse.calls (a1.extract 0 ((ji6) : Int).toNat) t109 t110 _ A10.out).mono ?_); rintro e w13 ⟨rfl, hb⟩; have n0_ := Aside0.mk (below_step (by repeat (first | (with_reducible first | exact HB.out | apply below_alloc | apply pw_below_drewN | apply below_drew1) | exact HB.out)) hb); clear HB; have HB := n0_; clear n0_; (try clear hb); (try clear hb2); (try clear hk); (try clear hi)) | (go_at_call 30; (with_reducible refine (footwayref01_Parse.calls k (a1.extract 0 ((ji6) : Int).toNat) t111 t112 _ A11.out).mono ?_); rintro e w' ⟨rfl, ⟨nd, rfl⟩⟩; (try first | exact ⟨rfl, _, World.drewN_drewN _ _ _⟩ | exact ⟨rfl, _, Eq.trans (World.drewN_drewN _ _ _) (congrArg (World.drewN _) (Nat.add_assoc _ _ _))⟩))))
          (try simp only [Act.put, List.setIfInBounds_toArray, List.set_cons_zero, List.set_cons_succ])
          go_cut [47] (fun v47 wc => ∃ (kq : Nat) (x47_11 : Bool), v47 = .bool x47_11 ∧ Aside0 (footwaylaw01_MacReads.j0 kq (a0.extract 0 ((ji3) : Int).toNat) t107 t108 x47_11 = some r) ∧ Aside0 (kq ≤ k) ∧ Aside0 (Below w.heap.size w wc))
          case first =>
            have H := HC12.out
            clear HC12
            by_cases c14 : t109 = t111
            · rw [if_pos c14] at H
              have c14b0 : (t109 == t111) = true := beq_iff_eq.mpr c14
              have c14b1 : (t109 != t111) = false := bne_eq_false_iff_eq.mpr c14
              clear c14
              (first | rw [c14b0] | (simp only [i64_w, i32_w]; rw [c14b0]) | skip)
              by_cases c15 : t110 = t112
              · rw [if_pos c15] at H
                have c15b0 : (t110 == t112) = true := beq_iff_eq.mpr c15
                have c15b1 : (t110 != t112) = false := bne_eq_false_iff_eq.mpr c15
                clear c15
                replace H := Option.bind_eq_some_iff.mp H
                obtain ⟨t113, A160, H⟩ := H
                replace H : (footwaylaw01_MacReads.j0 k (a0.extract 0 ((ji3) : Int).toNat) t107 t108 (!t113)) = some r := H
                have A16 := Aside0.mk A160
                clear A160
                have H' := Aside0.mk H
                clear H
                go_wp2_with (first | (go_at_call 31; (with_reducible refine (footwaylaw01_alive.calls  t113 _ A16.out).mono ?_); rintro e w17 ⟨rfl, hb⟩; have n0_ := Aside0.mk (below_step (by repeat (first | (with_reducible first | exact HB.out | apply below_alloc | apply pw_below_drewN | apply below_drew1) | exact HB.out)) hb); clear HB; have HB := n0_; clear n0_; (try clear hb); (try clear hb2); (try clear hk); (try clear hi)))
                repeat (go_quiet (first | (go_at_call 31; (with_reducible refine (footwaylaw01_alive.calls  t113 _ A16.out).mono ?_); rintro e w17 ⟨rfl, hb⟩; have n0_ := Aside0.mk (below_step (by repeat (first | (with_reducible first | exact HB.out | apply below_alloc | apply pw_below_drewN | apply below_drew1) | exact HB.out)) hb); clear HB; have HB := n0_; clear n0_; (try clear hb); (try clear hb2); (try clear hk); (try clear hi))); try go_wp2_with (first | (go_at_call 31; (with_reducible refine (footwaylaw01_alive.calls  t113 _ A16.out).mono ?_); rintro e w17 ⟨rfl, hb⟩; have n0_ := Aside0.mk (below_step (by repeat (first | (with_reducible first | exact HB.out | apply below_alloc | apply pw_below_drewN | apply below_drew1) | exact HB.out)) hb); clear HB; have HB := n0_; clear n0_; (try clear hb); (try clear hb2); (try clear hk); (try clear hi))))
                go_meet
                case rel => exact ⟨_, (!t113), (by first | rfl | (simp; done) | (simp [*]; done)), H', ⟨by first | omega | exact Nat.le_refl _⟩, ⟨by repeat (first | (with_reducible first | exact HB.out | apply below_alloc | apply pw_below_drewN | apply below_drew1) | exact HB.out)⟩⟩
              · rw [if_neg c15] at H
                have c15b0 : (t110 == t112) = false := beq_eq_false_iff_ne.mpr c15
                have c15b1 : (t110 != t112) = true := bne_iff_ne.mpr c15
                have H' := Aside0.mk H
                clear H
                go_wp2
                repeat (go_quiet (fail); try go_wp2)
                go_meet
                case rel => exact ⟨_, (true), (by first | rfl | (simp; done) | (simp [*]; done)), H', ⟨by first | omega | exact Nat.le_refl _⟩, ⟨by repeat (first | (with_reducible first | exact HB.out | apply below_alloc | apply pw_below_drewN | apply below_drew1) | exact HB.out)⟩⟩
            · rw [if_neg c14] at H
              have c14b0 : (t109 == t111) = false := beq_eq_false_iff_ne.mpr c14
              have c14b1 : (t109 != t111) = true := bne_iff_ne.mpr c14
              (first | rw [c14b0] | (simp only [i64_w, i32_w]; rw [c14b0]) | skip)
              have H' := Aside0.mk H
              clear H
              go_wp2
              repeat (go_quiet (fail); try go_wp2)
              go_meet
              case rel => exact ⟨_, (true), (by first | rfl | (simp; done) | (simp [*]; done)), H', ⟨by first | omega | exact Nat.le_refl _⟩, ⟨by repeat (first | (with_reducible first | exact HB.out | apply below_alloc | apply pw_below_drewN | apply below_drew1) | exact HB.out)⟩⟩
          case rest =>
            clear HC12
            try clear c1
            try clear p2
            try clear c4
            try clear c4b0
            try clear c4b1
            try clear c5
            try clear c5b0
            try clear c5b1
            try clear c6
            try clear c7
            try clear c7b0
            try clear c7b1
            try clear c8
            try clear c8b0
            try clear c8b1
            try clear c14
            try clear c14b0
            try clear c14b1
            try clear c15
            try clear c15b0
            try clear c15b1
            obtain ⟨kq, x47_11, rfl, HA, HJ11, HB⟩ := hcut
            cases kq with
            | zero => exact absurd HA.out (by simp [footwaylaw01_MacReads.j0])
            | succ kj11 =>
              have H := HA.out
              clear HA
              simp only [footwaylaw01_MacReads.j0] at H
              by_cases c18 : x47_11 = true
              · subst c18
                have H1 : (some false) = some r := by rw [if_pos rfl] at H; exact H
                clear H
                have H := H1
                clear H1
                obtain rfl := Option.some.inj H
                go_wp2
                repeat (go_quiet (fail); try go_wp2)
                go_ret
                exact ⟨by first | rfl | (simp [errW_none, errW_some] <;> rfl) | (simp only [← hji3, ← hji6]; first | rfl | (simp [errW_none, errW_some] <;> rfl)) | (simp [*, errW_none, errW_some] <;> rfl), by repeat (first | (with_reducible first | exact HB.out | apply below_alloc | apply pw_below_drewN | apply below_drew1) | exact HB.out)⟩
              · replace c18 := Bool.eq_false_iff.mpr c18
                subst c18
                have H1 : (if ((a0.extract 0 ((ji3) : Int).toNat).size : Int) < 6 then (if t108 = 7 then (some (t107 == 0)) else (some false)) else (if ((a0.extract 0 ((ji3) : Int).toNat).size : Int) > 6 then (if t108 = 8 then (some (t107 == 0)) else (some false)) else (if t108 = 0 then ((footwayref01_Of.f kj11 (a0.extract 0 ((ji3) : Int).toNat)).bind fun t114 => (some (t107 == t114))) else (some false)))) = some r := by rw [if_neg (show ¬ (false = true) by decide)] at H; exact H
                clear H
                have H := H1
                clear H1
                by_cases c19 : ((a0.extract 0 ((ji3) : Int).toNat).size : Int) < 6
                · rw [if_pos c19] at H
                  have c19b0 : decide (((a0.extract 0 ((ji3) : Int).toNat).size : Int) < 6) = true := decide_eq_true c19
                  have c19b7 := c19b0
                  try simp only [ByteArray.size_extract, Nat.sub_zero] at c19b7
                  have c19b1 : decide ((a0.extract 0 ((ji3) : Int).toNat).size < 6) = true := decide_eq_true (by omega)
                  clear c19
                  by_cases c20 : t108 = 7
                  · rw [if_pos c20] at H
                    have c20b0 : (t108 == 7) = true := beq_iff_eq.mpr c20
                    have c20b1 : (t108 != 7) = false := bne_eq_false_iff_eq.mpr c20
                    clear c20
                    obtain rfl := Option.some.inj H
                    go_wp2
                    repeat (go_quiet (fail); try go_wp2)
                    go_ret
                    exact ⟨by first | rfl | (simp [errW_none, errW_some] <;> rfl) | (simp only [← hji3, ← hji6]; first | rfl | (simp [errW_none, errW_some] <;> rfl)) | (simp [*, errW_none, errW_some] <;> rfl), by repeat (first | (with_reducible first | exact HB.out | apply below_alloc | apply pw_below_drewN | apply below_drew1) | exact HB.out)⟩
                  · rw [if_neg c20] at H
                    have c20b0 : (t108 == 7) = false := beq_eq_false_iff_ne.mpr c20
                    have c20b1 : (t108 != 7) = true := bne_iff_ne.mpr c20
                    obtain rfl := Option.some.inj H
                    go_wp2
                    repeat (go_quiet (fail); try go_wp2)
                    go_ret
                    exact ⟨by first | rfl | (simp [errW_none, errW_some] <;> rfl) | (simp only [← hji3, ← hji6]; first | rfl | (simp [errW_none, errW_some] <;> rfl)) | (simp [*, errW_none, errW_some] <;> rfl), by repeat (first | (with_reducible first | exact HB.out | apply below_alloc | apply pw_below_drewN | apply below_drew1) | exact HB.out)⟩
                · rw [if_neg c19] at H
                  have c19b0 : decide (((a0.extract 0 ((ji3) : Int).toNat).size : Int) < 6) = false := decide_eq_false c19
                  have c19b7 := c19b0
                  try simp only [ByteArray.size_extract, Nat.sub_zero] at c19b7
                  have c19b1 : decide ((a0.extract 0 ((ji3) : Int).toNat).size < 6) = false := decide_eq_false (by omega)
                  clear c19
                  by_cases c21 : ((a0.extract 0 ((ji3) : Int).toNat).size : Int) > 6
                  · rw [if_pos c21] at H
                    have c21b0 : decide (6 < ((a0.extract 0 ((ji3) : Int).toNat).size : Int)) = true := decide_eq_true c21
                    have c21b7 := c21b0
                    try simp only [ByteArray.size_extract, Nat.sub_zero] at c21b7
                    have c21b1 : decide (6 < (a0.extract 0 ((ji3) : Int).toNat).size) = true := decide_eq_true (by omega)
                    clear c21
                    by_cases c22 : t108 = 8
                    · rw [if_pos c22] at H
                      have c22b0 : (t108 == 8) = true := beq_iff_eq.mpr c22
                      have c22b1 : (t108 != 8) = false := bne_eq_false_iff_eq.mpr c22
                      clear c22
                      obtain rfl := Option.some.inj H
                      go_wp2
                      repeat (go_quiet (fail); try go_wp2)
                      go_ret
                      exact ⟨by first | rfl | (simp [errW_none, errW_some] <;> rfl) | (simp only [← hji3, ← hji6]; first | rfl | (simp [errW_none, errW_some] <;> rfl)) | (simp [*, errW_none, errW_some] <;> rfl), by repeat (first | (with_reducible first | exact HB.out | apply below_alloc | apply pw_below_drewN | apply below_drew1) | exact HB.out)⟩
                    · rw [if_neg c22] at H
                      have c22b0 : (t108 == 8) = false := beq_eq_false_iff_ne.mpr c22
                      have c22b1 : (t108 != 8) = true := bne_iff_ne.mpr c22
                      obtain rfl := Option.some.inj H
                      go_wp2
                      repeat (go_quiet (fail); try go_wp2)
                      go_ret
                      exact ⟨by first | rfl | (simp [errW_none, errW_some] <;> rfl) | (simp only [← hji3, ← hji6]; first | rfl | (simp [errW_none, errW_some] <;> rfl)) | (simp [*, errW_none, errW_some] <;> rfl), by repeat (first | (with_reducible first | exact HB.out | apply below_alloc | apply pw_below_drewN | apply below_drew1) | exact HB.out)⟩
                  · rw [if_neg c21] at H
                    have c21b0 : decide (6 < ((a0.extract 0 ((ji3) : Int).toNat).size : Int)) = false := decide_eq_false c21
                    have c21b7 := c21b0
                    try simp only [ByteArray.size_extract, Nat.sub_zero] at c21b7
                    have c21b1 : decide (6 < (a0.extract 0 ((ji3) : Int).toNat).size) = false := decide_eq_false (by omega)
                    clear c21
                    by_cases c23 : t108 = 0
                    · rw [if_pos c23] at H
                      have c23b0 : (t108 == 0) = true := beq_iff_eq.mpr c23
                      have c23b1 : (t108 != 0) = false := bne_eq_false_iff_eq.mpr c23
                      clear c23
                      replace H := Option.bind_eq_some_iff.mp H
                      obtain ⟨t114, A240, H⟩ := H
                      replace H : (some (t107 == t114)) = some r := H
                      have A24 := Aside0.mk A240
                      clear A240
                      obtain rfl := Option.some.inj H
                      go_wp2_with (first | (go_at_call 32; (with_reducible refine (footwayref01_Of.calls kj11 (a0.extract 0 ((ji3) : Int).toNat) t114 _ A24.out).mono ?_); rintro e w' ⟨rfl, ⟨nd, rfl⟩⟩; (try first | exact ⟨rfl, _, World.drewN_drewN _ _ _⟩ | exact ⟨rfl, _, Eq.trans (World.drewN_drewN _ _ _) (congrArg (World.drewN _) (Nat.add_assoc _ _ _))⟩)))
                      repeat (go_quiet (first | (go_at_call 32; (with_reducible refine (footwayref01_Of.calls kj11 (a0.extract 0 ((ji3) : Int).toNat) t114 _ A24.out).mono ?_); rintro e w' ⟨rfl, ⟨nd, rfl⟩⟩; (try first | exact ⟨rfl, _, World.drewN_drewN _ _ _⟩ | exact ⟨rfl, _, Eq.trans (World.drewN_drewN _ _ _) (congrArg (World.drewN _) (Nat.add_assoc _ _ _))⟩))); try go_wp2_with (first | (go_at_call 32; (with_reducible refine (footwayref01_Of.calls kj11 (a0.extract 0 ((ji3) : Int).toNat) t114 _ A24.out).mono ?_); rintro e w' ⟨rfl, ⟨nd, rfl⟩⟩; (try first | exact ⟨rfl, _, World.drewN_drewN _ _ _⟩ | exact ⟨rfl, _, Eq.trans (World.drewN_drewN _ _ _) (congrArg (World.drewN _) (Nat.add_assoc _ _ _))⟩))))
                      go_ret
                      exact ⟨by first | rfl | (simp [errW_none, errW_some] <;> rfl) | (simp only [← hji3, ← hji6]; first | rfl | (simp [errW_none, errW_some] <;> rfl)) | (simp [*, errW_none, errW_some] <;> rfl), by repeat (first | (with_reducible first | exact HB.out | apply below_alloc | apply pw_below_drewN | apply below_drew1) | exact HB.out)⟩
                    · rw [if_neg c23] at H
                      have c23b0 : (t108 == 0) = false := beq_eq_false_iff_ne.mpr c23
                      have c23b1 : (t108 != 0) = true := bne_iff_ne.mpr c23
                      obtain rfl := Option.some.inj H
                      go_wp2
                      repeat (go_quiet (fail); try go_wp2)
                      go_ret
                      exact ⟨by first | rfl | (simp [errW_none, errW_some] <;> rfl) | (simp only [← hji3, ← hji6]; first | rfl | (simp [errW_none, errW_some] <;> rfl)) | (simp [*, errW_none, errW_some] <;> rfl), by repeat (first | (with_reducible first | exact HB.out | apply below_alloc | apply pw_below_drewN | apply below_drew1) | exact HB.out)⟩
        · rw [if_neg c8] at H
          exact absurd H (by simp)
      · rw [if_neg c7] at H
        exact absurd H (by simp)
    · rw [if_neg c5] at H
      exact absurd H (by simp)
  · rw [if_neg c4] at H
    exact absurd H (by simp)

/-- THE ONE PURE STATEMENT of footwaylaw01_MacReads: yours. -/
def footwaylaw01_MacReads.Pure : Prop := ∀ (a0 : ByteArray) (a1 : ByteArray), a0.size ≤ 140737488351232 → a1.size ≤ 140737488351232 → ∃ k, footwaylaw01_MacReads.f k a0 a1 = some true
theorem footwaylaw01_MacReads.walk (P : footwaylaw01_MacReads.Pure) (a0 : ByteArray) (a1 : ByteArray) (w : World) (w0 : a0.size ≤ 140737488351232) (w1 : a1.size ≤ 140737488351232) :
    Calls Try.prog 6 #[.string a0, .string a1] w fun e w' => e = .returned (.bool true) ∧ Below w.heap.size w w' := by
  obtain ⟨k, h⟩ := P a0 a1 w0 w1
  refine (footwaylaw01_MacReads.calls k a0 a1 true w h).mono ?_
  rintro e w' ⟨rfl, hd⟩
  exact ⟨rfl, hd⟩

-- by hand: function 26 (footwayref01_Class)

-- by hand: function 33 (mac_Bytes)

-- by hand: function 34 (mac_Print)

-- by hand: function 35 (mac_Right)

-- by hand: function 36 (footwayref01_Right)

-- by hand: function 37 (footwayref01_Bytes)

-- by hand: function 38 (footwayref01_Print)

end Go.Proofs.Ytnikfjfcbpeieaa.PMa
