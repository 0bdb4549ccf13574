/- Addresses as plain numbers: what the reference reads is what mac.Parse reads. -/
import Derived.Test.YtnikfjfcbpeieaaQg
import Derived.Test.YtnikfjfcbpeieaaBd
import Derived.Test.YtnikfjfcbpeieaaMp
import Derived.Test.YtnikfjfcbpeieaaPMax1
namespace Go.Proofs.Ytnikfjfcbpeieaa.QM
open Go.RowKit Go.Proofs.Ytnikfjfcbpeieaa.PBa Go.Proofs.Ytnikfjfcbpeieaa.EFrame Go.Proofs.Ytnikfjfcbpeieaa.EMac Go.Proofs.Ytnikfjfcbpeieaa.EPr Go.Proofs.Ytnikfjfcbpeieaa.EOn Go.Proofs.Ytnikfjfcbpeieaa.QF Go.Proofs.Ytnikfjfcbpeieaa.PMa Go.Proofs.YtnikfjfcbpeieaaW.PrintWords Go.Proofs.YtnikfjfcbpeieaaW.PrintLast Go.Proofs.YtnikfjfcbpeieaaW.PrintMore
set_option linter.unusedVariables false
set_option linter.unusedSimpArgs false

/-- A digit's value; -1: it is none. -/
def val (c : Int) : Int := if 48 ≤ c ∧ c ≤ 57 then c - 48 else (if 97 ≤ c ∧ c ≤ 102 then c - 87 else -1)

theorem tv_val (c : Int) (h0 : 0 ≤ c) (h1 : c ≤ 255) : tv 16 c.toNat = val c + 1 := by
  have h : ∀ n : Fin 256, tv 16 n.val = val (n.val : Int) + 1 := by decide +kernel
  have := h ⟨c.toNat, by omega⟩
  rw [show ((c.toNat : Nat) : Int) = c from by omega] at this
  exact this

theorem val_eq (c : Int) (h0 : 0 ≤ c) (h1 : c ≤ 255) (k : Nat) : footwayref01_value.f (k + 1) c = some (val c) := by
  unfold footwayref01_value.f val
  by_cases c0 : c ≥ 48
  · rw [if_pos c0, footwayref01_value.j0]
    by_cases c1 : c ≤ 57
    · rw [if_pos (decide_eq_true c1), if_pos ⟨c0, c1⟩]
      congr 1; omega
    · rw [decide_eq_false c1, if_neg (show ¬ (false = true) by decide), if_neg (show ¬ (48 ≤ c ∧ c ≤ 57) by omega)]
      by_cases c2 : c ≥ 97
      · rw [if_pos c2]
        by_cases c3 : c ≤ 102
        · rw [if_pos c3, if_pos ⟨c2, c3⟩]
          congr 1; omega
        · rw [if_neg c3, if_neg (by omega)]
      · rw [if_neg c2, if_neg (by omega)]
  · rw [if_neg c0, footwayref01_value.j0, if_neg (show ¬ (false = true) by decide), if_neg (show ¬ c ≥ 97 by omega), if_neg (show ¬ (48 ≤ c ∧ c ≤ 57) by omega), if_neg (show ¬ (97 ≤ c ∧ c ≤ 102) by omega)]

theorem rparse_go (s : ByteArray) (hs : s.size = 17) (d : Nat) : ∀ (k i : Nat) (acc : Int), i + d = 17 → d + 2 < k → pst s i = some acc →
    footwayref01_Parse.l0 k s acc (i : Int) = (match pst s 17 with | some a => some (a, 0) | none => some (0, 9)) := by
  induction d with
  | zero =>
    intro k i acc hi hk hp
    obtain ⟨k, rfl⟩ : ∃ m, k = m + 1 := ⟨k - 1, by omega⟩
    obtain rfl : i = 17 := by omega
    rw [footwayref01_Parse.l0, if_neg (by decide), hp]
  | succ d ih =>
    intro k i acc hi hk hp
    obtain ⟨k, rfl⟩ : ∃ m, k = m + 2 := ⟨k - 2, by omega⟩
    have hb := bt_range s i
    have hr := pst_small s i (by omega) acc hp
    have hst : pst s (i + 1) = if i % 3 = 2 then (if bt s i = 58 then some acc else none) else (if tv 16 (bt s i).toNat = 0 then none else some (acc * 16 + (tv 16 (bt s i).toNat - 1))) := by
      simp only [pst, hp, Option.bind_some]
    have lost : pst s (i + 1) = none → pst s 17 = none := fun h => by
      have := pst_none s (i + 1) h d
      rw [show i + 1 + d = 17 from by omega] at this
      exact this
    have hw : wrap64 ((i : Int) + 1) = ((i + 1 : Nat) : Int) := by unfold wrap64; omega
    rw [footwayref01_Parse.l0, if_pos (by omega), Int.tmod_eq_emod_of_nonneg (by omega), hw]
    by_cases h3 : i % 3 = 2
    · rw [if_pos (by omega), if_pos (by omega), if_pos (by omega)]
      rw [if_pos h3] at hst
      by_cases h58 : bt s i = 58
      · rw [if_pos h58] at hst ⊢
        exact ih (k + 1) (i + 1) acc (by omega) (by omega) hst
      · rw [if_neg h58] at hst ⊢
        rw [lost hst]
    · rw [if_neg (by omega), if_pos (by omega), if_pos (by omega), val_eq _ hb.1 hb.2 k]
      rw [if_neg h3, tv_val _ hb.1 hb.2] at hst
      simp only [Option.bind_some]
      have hv : -1 ≤ val (bt s i) ∧ val (bt s i) ≤ 15 := by unfold val; split <;> (try split) <;> omega
      by_cases hv0 : val (bt s i) < 0
      · rw [if_pos (by omega)] at hst
        rw [if_pos hv0, lost hst]
      · rw [if_neg (by omega)] at hst
        rw [if_neg hv0]
        rw [show wrap64 (wrap64 (16 * acc) + val (bt s i)) = acc * 16 + (val (bt s i) + 1 - 1) from by unfold wrap64; omega]
        exact ih (k + 1) (i + 1) _ (by omega) (by omega) hst

theorem rParse_eq (s : ByteArray) (k : Nat) (hk : 30 ≤ k) : footwayref01_Parse.f k s = mac_Parse.f s := by
  unfold footwayref01_Parse.f mac_Parse.f
  by_cases h0 : s.size < 17
  · rw [if_pos (by omega), if_pos h0]
  · rw [if_neg (by omega), if_neg h0]
    by_cases h1 : 17 < s.size
    · rw [if_pos (by omega), if_pos h1]
    · rw [if_neg (by omega), if_neg h1]
      exact rparse_go s (by omega) 17 k 0 0 (by omega) (by omega) rfl

theorem alive_eq : footwaylaw01_alive.f = some true := by decide +kernel
end Go.Proofs.Ytnikfjfcbpeieaa.QM
