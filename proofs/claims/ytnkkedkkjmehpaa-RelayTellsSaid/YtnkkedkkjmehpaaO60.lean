/- A slice of port states that came in, opened. -/
import Derived.Test.YtnkkedkkjmehpaaPRex0
import Derived.Deep.SlicePairs
import Derived.ProofKit
import Derived.WalkKit
import Derived.OpenShut
import Derived.ChangeOld
import Derived.Below
import Derived.SizedLaws
namespace Go.Proofs.Ytnkkedkkjmehpaa.PRe
open Go.ChangeShapes Go.WideShapes Go.ChangeAt Go.RowKit Go.Proofs.YtnkkedkkjmehpaaW.PrintWords Go.Proofs.YtnkkedkkjmehpaaW.PrintLast Go.Proofs.YtnkkedkkjmehpaaW.PrintMore
set_option linter.unusedVariables false
set_option linter.unusedSimpArgs false

def numV : Value → Int
  | .int _ n => n
  | _ => 0

theorem open_S60 {H : Type} {enc : TypeId × Value → H} {W : World} {base : Nat} {spare : Nat → Bool} {held : Bool} {a : Option Addr} {len cap : Nat} {d : DataW H} {ps : List MemPlace}
    (h : DataW.Trod enc Try.prog W base spare held 55 (.slice a len cap) d ps) : ∃ l0 : List S60, l0.length = len ∧ l0.length ≤ cap ∧ Kd.C k60 W a l0.length l0 := by
  obtain ⟨fuel, hf⟩ := h
  rcases Go.Deep.open_slice_pairs Try.underlying55 Try.underlying60 (by kernel_rfl) rfl rfl (by kernel_rfl) (by kernel_rfl) hf with ⟨hcs, _⟩ | ⟨x, l, c, m, n, V0, V1, D0, D1, P0, P1, hcs, _, hl, hc, hm, _, hx⟩
  · simp [Value.cells] at hcs
    obtain ⟨rfl, rfl, rfl⟩ := hcs
    exact ⟨[], rfl, Nat.le_refl _, rfl, by decide, fun h => absurd h (by decide)⟩
  · simp [Value.cells] at hcs
    obtain ⟨rfl, rfl, rfl⟩ := hcs
    have hlm : len ≤ m := by rw [hm]; split <;> omega
    refine ⟨(List.range len).map fun i => ⟨numV (V0 i), numV (V1 i)⟩, by simp, by simpa using hl, rfl, by simp; unfold maxLen at hc; omega, fun _ => ⟨x, rfl, fun j p hj => ?_⟩⟩
    have hjl : j < len := by have := (List.getElem?_eq_some_iff.1 hj).1; simpa using this
    have hp : p = ⟨numV (V0 j), numV (V1 j)⟩ := by
      rw [List.getElem?_map, List.getElem?_range hjl] at hj
      exact (Option.some.inj hj).symm
    subst hp
    obtain ⟨h0, h1, t0, t1⟩ := hx j (by omega)
    obtain ⟨n0, e0, _, _⟩ := DataW.trod_int Try.underlying3 t0
    obtain ⟨n1, e1, _, _⟩ := DataW.trod_int Try.underlying3 t1
    simp at e0 e1
    refine ⟨_, rfl, k60_mk W _, fun i u hu => ?_⟩
    rw [e0] at h0 hu
    rw [e1] at h1 hu
    rcases i with _ | _ | i
    · have : u = .int .i64 n0 := by simpa [numV] using hu.symm
      rw [this]
      exact h0
    · have : u = .int .i64 n1 := by simpa [numV] using hu.symm
      rw [this]
      exact h1
    · simp at hu
end Go.Proofs.Ytnkkedkkjmehpaa.PRe
