/- A config as a law's argument: opened, and shut. -/
import Derived.Test.YtnikfjfcbpeieaaChecked
import Derived.WalkKit
import Derived.ProofKit
import Derived.OpenShut
import Derived.ChangeOld
import Derived.SizedLaws
import Derived.Lib.SmallJoins
section
namespace Go.Proofs.Ytnikfjfcbpeieaa.O52
open Go.ChangeShapes Go.WideShapes Go.ChangeAt Go.RowKit Go.Joins
set_option linter.unusedVariables false
set_option linter.unusedSimpArgs false
theorem arr5 {α : Type} {cs : Array α} (h : cs.size = 5) : ∃ c0 c1 c2 c3 c4, cs = #[c0, c1, c2, c3, c4] := by
 obtain ⟨l⟩ := cs
 match l, h with
 | [c0, c1, c2, c3, c4], _ => exact ⟨c0, c1, c2, c3, c4, rfl⟩
theorem c52 : Try.prog.cellsOf 52 = 5 := by kernel_rfl
theorem c50 : Try.prog.cellsOf 50 = 4 := by kernel_rfl
theorem c3 : Try.prog.cellsOf 3 = 1 := by kernel_rfl
section
variable {H : Type} {enc : TypeId × Value → H} {w : World} {base : Nat} {spare : Nat → Bool} {held : Bool}
def cv (r c b p a : Int) : Value := .agg #[.int .i64 r, .int .i64 c, .int .i64 b, .int .i64 p, .int .i64 a]
def cd (H : Type) (r c b p a : Int) : DataW H := .agg [.agg [.lit (.int .i64 r), .lit (.int .i64 c), .lit (.int .i64 b), .lit (.int .i64 p)], .lit (.int .i64 a)]
set_option maxRecDepth 100000 in
theorem open_cfg {rr : Reach} {b0 : Nat} {v : Value} {d : DataW H} {ps : List MemPlace} (hv : Value.okWide Try.prog w rr b0 52 v) (h : DataW.Trod enc Try.prog w base spare held 52 v d ps) :
  ∃ r c b p a : Int, v = cv r c b p a ∧ d = cd H r c b p a ∧ ps = [] ∧ (Lit.int .i64 r).wf = true ∧ (Lit.int .i64 c).wf = true ∧ (Lit.int .i64 b).wf = true ∧ (Lit.int .i64 p).wf = true ∧ (Lit.int .i64 a).wf = true := by
 obtain ⟨cs, rfl, hsz⟩ := okWide_struct Try.underlying52 hv
 obtain ⟨v0, v1, v2, v3, v4, rfl⟩ := arr5 (hsz.trans c52)
 obtain ⟨fuel, hf⟩ := h
 obtain ⟨y0, y1, n, hx, _, h0, h1⟩ := trod_struct2 Try.underlying52 hf
 simp only [Value.cells, c50, c3] at h0 h1
 obtain ⟨z0, z1, z2, z3, m, hz, _, k0, k1, k2, k3⟩ := trod_struct4 Try.underlying50 h0
 simp only [c3, List.drop_zero, List.drop_succ_cons, List.take_succ_cons, List.take_zero] at k0 k1 k2 k3 h1
 obtain ⟨a0, e0, rfl, w0⟩ := DataW.trod_int Try.underlying3 k0
 obtain ⟨a1, e1, rfl, w1⟩ := DataW.trod_int Try.underlying3 k1
 obtain ⟨a2, e2, rfl, w2⟩ := DataW.trod_int Try.underlying3 k2
 obtain ⟨a3, e3, rfl, w3⟩ := DataW.trod_int Try.underlying3 k3
 obtain ⟨a4, e4, rfl, w4⟩ := DataW.trod_int Try.underlying3 h1
 simp at e0 e1 e2 e3 e4
 subst e0 e1 e2 e3 e4
 subst hz
 simp only [Prod.mk.injEq, List.append_nil] at hx
 exact ⟨a0, a1, a2, a3, a4, rfl, hx.1, hx.2, w0, w1, w2, w3, w4⟩
set_option maxRecDepth 100000 in
theorem shut_cfg {r c b p a : Int} (w0 : (Lit.int .i64 r).wf = true) (w1 : (Lit.int .i64 c).wf = true) (w2 : (Lit.int .i64 b).wf = true) (w3 : (Lit.int .i64 p).wf = true) (w4 : (Lit.int .i64 a).wf = true) :
  DataW.Trod enc Try.prog w base spare held 52 (cv r c b p a) (cd H r c b p a) [] := by
 have ts := trod_struct4_mk (enc := enc) (P := Try.prog) (w := w) (base := base) (spare := spare) (held := held) (n := 1) (cs := [.int .i64 r, .int .i64 c, .int .i64 b, .int .i64 p]) Try.underlying50 (by rw [c50]; rfl)
  (by rw [c3]; exact trod_int_mk 0 Try.underlying3 w0) (by rw [c3]; exact trod_int_mk 0 Try.underlying3 w1) (by rw [c3]; exact trod_int_mk 0 Try.underlying3 w2) (by rw [c3]; exact trod_int_mk 0 Try.underlying3 w3)
 have tt := trod_struct2_mk (enc := enc) (P := Try.prog) (w := w) (base := base) (spare := spare) (held := held) (n := 2) (cs := [.int .i64 r, .int .i64 c, .int .i64 b, .int .i64 p, .int .i64 a]) Try.underlying52 (by rw [c52]; rfl)
  (by rw [c50]; exact ts) (by rw [c3]; exact trod_int_mk 1 Try.underlying3 w4)
 exact ⟨_, tt⟩
end
end Go.Proofs.Ytnikfjfcbpeieaa.O52
end
