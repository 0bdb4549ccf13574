/- Plain laws of relay: Without. -/
import Derived.Test.YtnkkedkkjmehpaaQRe
import Derived.Test.YtnkkedkkjmehpaaPRex3
namespace Go.Proofs.Ytnkkedkkjmehpaa.QRe
open Go.RowKit Go.Proofs.Ytnkkedkkjmehpaa.ERel Go.Proofs.Ytnkkedkkjmehpaa.PRe Go.Proofs.YtnkkedkkjmehpaaW.PrintWords Go.Proofs.YtnkkedkkjmehpaaW.PrintLast
set_option linter.unusedVariables false
set_option linter.unusedSimpArgs false

def wo (l : List Int) (a : Int) : List Int := l.filter (fun x => !(x == a))
theorem wo_cons (x : Int) (l : List Int) (a : Int) : wo (x :: l) a = if x = a then wo l a else x :: wo l a := by
  unfold wo
  rw [List.filter_cons]
  by_cases h : x = a
  · rw [if_pos h, if_neg (by simp [h])]
  · rw [if_neg h, if_pos (by simp [h])]
theorem without_go (a : Int) (l : List Int) (hl : l.length ≤ 1000000) (d : Nat) : ∀ (k i : Nat) (acc : List Int), i + d = l.length → d < k → acc.length ≤ i →
    footwayref06_Without.l0 k a acc l (l.length : Int) (i : Int) = some (acc ++ wo (l.drop i) a) := by
  induction d with
  | zero =>
    intro k i acc hi hk _
    obtain ⟨k, rfl⟩ : ∃ m, k = m + 1 := ⟨k - 1, by omega⟩
    simp only [footwayref06_Without.l0]
    rw [if_neg (by omega), List.drop_of_length_le (by omega)]
    simp [wo]
  | succ d ih =>
    intro k i acc hi hk ha
    obtain ⟨k, rfl⟩ : ∃ m, k = m + 1 := ⟨k - 1, by omega⟩
    have hil : i < l.length := by omega
    simp only [footwayref06_Without.l0]
    rw [if_pos (by omega), if_pos (by omega), if_pos (by omega), rd_at hil, wrap_succ (by omega), List.drop_eq_getElem_cons hil]
    by_cases he : l[i] = a
    · rw [if_pos he, ih k (i + 1) acc (by omega) (by omega) (by omega)]
      simp [wo, he]
    · rw [if_neg he, if_pos (by omega), ih k (i + 1) _ (by omega) (by omega) (by simp; omega), wo_cons, if_neg he, List.append_assoc]
      rfl
theorem Without_eq (l : List Int) (hl : l.length ≤ 1000000) (a : Int) (k : Nat) (hk : l.length < k) : footwayref06_Without.f k l a = some (wo l a) := by
  unfold footwayref06_Without.f
  have := without_go a l hl l.length k 0 [] (by omega) hk (by simp)
  simpa using this

end Go.Proofs.Ytnkkedkkjmehpaa.QRe
