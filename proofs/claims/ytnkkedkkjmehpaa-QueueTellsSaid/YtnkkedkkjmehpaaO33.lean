/- A slice of strings that came in, as one cell, opened. -/
import Derived.Test.YtnkkedkkjmehpaaPQuy0
import Derived.SliceStrings
import Derived.ProofKit
import Derived.WalkKit
import Derived.OpenShut
import Derived.ChangeOld
import Derived.Below
namespace Go.Proofs.Ytnkkedkkjmehpaa.PQu
open Go.ChangeShapes Go.WideShapes Go.ChangeAt Go.RowKit Go.Proofs.YtnkkedkkjmehpaaW.PrintWords Go.Proofs.YtnkkedkkjmehpaaW.PrintLast Go.Proofs.YtnkkedkkjmehpaaW.PrintMore
set_option linter.unusedVariables false
set_option linter.unusedSimpArgs false

theorem open_S33 {H : Type} {enc : TypeId × Value → H} {W : World} {base : Nat} {spare : Nat → Bool} {held : Bool} {n : Nat} {v : Value} {y : DataW H × List MemPlace}
    (h : DataW.trod enc Try.prog W base spare held n 33 [v] = some y) : ∃ (A : Option Addr) (len cap : Nat) (l : List ByteArray), v = .slice A len cap ∧ l.length = len ∧ l.length ≤ cap ∧ Kd.C Kd.string W A l.length l := by
  rcases open_strings Try.underlying33 Try.underlying9 (by kernel_rfl) h with ⟨hcs, _⟩ | ⟨a, len, cap, ss, hcs, _, hl, hm, hz, _, hcell, _⟩
  · simp at hcs
    subst hcs
    exact ⟨none, 0, 0, [], rfl, rfl, Nat.le_refl _, Kd.C_of_reads (d := ByteArray.empty) ⟨rfl, by decide, fun h => absurd h (by decide)⟩⟩
  · simp at hcs
    subst hcs
    have hlz : len ≤ ss.length := by rw [hz]; split <;> omega
    have e : (ss.take len).length = len := by rw [List.length_take]; omega
    refine ⟨some a, len, cap, ss.take len, rfl, e, by rw [e]; exact hl, Kd.C_of_reads (d := ByteArray.empty) ⟨rfl, by rw [e]; unfold maxLen at hm; omega, fun _ => ⟨a, rfl, fun j hj => ?_⟩⟩⟩
    rw [e] at hj
    rw [hcell j (by omega)]
    simp [List.getD_eq_getElem?_getD, List.getElem?_take, hj]
end Go.Proofs.Ytnkkedkkjmehpaa.PQu
