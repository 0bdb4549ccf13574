-- Laid by a program of this session; Lean checks it.
import Derived.Test.YtnikfjfcbpeieaaRows
import Derived.Test.YtnikfjfcbpeieaaMY
import Derived.Test.YtnikfjfcbpeieaaO52
import Derived.Test.YtnikfjfcbpeieaaMPt
import Derived.WalkKit
import Derived.ProofKit
import Derived.OpenShut
import Derived.ShutString
import Derived.ChangeOld
import Derived.Below
import Derived.SizedLaws
import Derived.Lib.SmallJoins
import Derived.Conc.Holds
import Derived.Conc.LeavingOf
namespace Go.Proofs.Ytnikfjfcbpeieaa.bpduTurns
open Go.ChangeShapes Go.WideShapes Go.ChangeAt Go.RowKit Go.Joins
open Go.ChangeMaps (open_string shut_string)
set_option linter.unusedVariables false
set_option linter.unusedSimpArgs false
theorem own : ownKnob Try.prog.godebug = none := by kernel_rfl
set_option maxRecDepth 100000 in
set_option maxHeartbeats 1600000 in
theorem lifted (os : Os) (started : os.Started) (H : Type) (enc : TypeId × Value → H) :
    ReturnsInLeavingWide Rows.bpduTurnsRow.assume Try.checked os 10 .any (Rows.bpduTurnsSpec.pre6 enc Try.prog Try.f10 Rows.bpduTurnsRow.domain false) (Rows.bpduTurnsSpec.post enc Try.prog Try.f10 false true false false) := by
  refine returnsInLeavingWide_of_change_sized (C := Try.checked) own started Try.func10
    (ChangeSpec.witness6 (enc := enc) (C := Try.checked) false ⟨#[], #[.agg #[.int .i64 0, .int .i64 0, .int .i64 0, .int .i64 0, .int .i64 0], .int .i64 0, .int .u8 0], []⟩ 8 (by kernel_rfl) (by kernel_rfl) (by kernel_rfl) (by kernel_rfl)) ?_
  intro W base args ds gs before hval0 hW hcnd hsz0 _
  have hval : ∀ (j : Nat) t v, Try.f10.params[j]? = some t → args[j]? = some v → Value.okWide Try.prog W .any base t v := hval0
  have hW' := hW
  obtain ⟨p, q, hA0, hV, rfl, hfz, hnd⟩ := hW
  have hA : DataW.TrodAll enc Try.prog W 0 (fun _ => true) true Try.f10.params.toList args.toList ds p := hA0
  rw [Try.params10] at hA hval
  obtain ⟨v0, vs0, d0, ds0, p0, q0, hargs, rfl, rfl, h0, r0⟩ := trodAll_cons hA
  obtain ⟨v1, vs1, d1, ds1, p1, q1, rfl, rfl, rfl, h1, r1⟩ := trodAll_cons r0
  obtain ⟨v2, vs2, d2, ds2, p2, q2, rfl, rfl, rfl, h2, r2⟩ := trodAll_cons r1
  obtain ⟨rfl, rfl, rfl⟩ := trodAll_nil r2
  obtain rfl : args = #[v0, v1, v2] := by cases args; simp_all
  obtain ⟨rfl, rfl⟩ := trodVars_none hV
  obtain ⟨a0_0, a0_1, a0_2, a0_3, a0_4, rfl, rfl, rfl, w0_0, w0_1, w0_2, w0_3, w0_4⟩ := O52.open_cfg (hval 0 52 v0 rfl rfl) h0
  obtain ⟨a1, rfl, rfl, rfl, w1⟩ := open_int Try.underlying3 (hval 1 3 v1 rfl rfl) h1
  obtain ⟨a2, rfl, rfl, rfl, w2⟩ := open_int Try.underlying5 (hval 2 5 v2 rfl rfl) h2
  clear hA0 hval0 hsz0
  have hends := Lk.company_of_lone (f := 10) (r := 6) (fn := Try.f10) (W := W) (args := #[O52.cv a0_0 a0_1 a0_2 a0_3 a0_4, .int .i64 a1, .int .u8 a2]) (by rfl) (fun _ => rfl) Try.func10 Try.results10 (by kernel_rfl) ?ok (fun TT => (PBp.footwaylaw03_BpduTurns.calls 2000 a0_0 a0_1 a0_2 a0_3 a0_4 a1 a2 true (Lk.tape W TT) (Pure.BpduTurns a0_0 a0_1 a0_2 a0_3 a0_4 a1 a2 (by simp [Lit.wf, IntKind.min, IntKind.max, IntKind.signed, IntKind.bits] at w2; omega))).mono fun e W2 h => h.1)
  case ok =>
    intro x hx
    simp only [List.mem_toArray, List.mem_cons, List.not_mem_nil, or_false] at hx
    rcases hx with rfl | rfl | rfl
    · refine .agg fun y hy => ?_
      simp only [List.mem_toArray, List.mem_cons, List.not_mem_nil, or_false] at hy
      rcases hy with rfl | rfl | rfl | rfl | rfl <;> exact .int _ _
    · exact .int _ _
    · exact .int _ _
  obtain ⟨M, last, o, w', t', h1, h2, h3, h4⟩ := hends
  exact ⟨M, last, o, w', t', h1, h2, h3, h4.mono fun v hv => by
    obtain ⟨rfl, bel⟩ := hv
    exact ⟨_, _, _, [], _, [], hW', trodAll_mk1 (shut_bool Try.underlying4 _), (trodAll_cons_mk (O52.shut_cfg w0_0 w0_1 w0_2 w0_3 w0_4) (trodAll_mk2 (shut_int Try.underlying3 w1) (shut_int Try.underlying5 w2))), rfl, bel.frame _, fun h => by cases h⟩⟩
theorem over : Rows.bpduTurnsRow.holds Try.pinned (OpenSpec.ofChange Rows.bpduTurnsSpec) :=
  OpenClaim.holds_of_wide_leaving 10 Try.f10 rfl rfl rfl rfl rfl rfl rfl ⟨rfl, rfl, rfl, rfl, rfl⟩ rfl rfl rfl rfl rfl (by kernel_rfl) Try.func10 (by kernel_rfl)
    (of_decide_eq_true (by kernel_rfl)) (by unfold Func.isWrapper; first | (rw [if_pos (by decide +kernel)]; kernel_rfl) | (rw [if_neg (by decide +kernel)]; exact ⟨rfl, rfl⟩))
    (fun os started H enc _ => lifted os started H enc)
theorem proved : Rows.BpduTurnsSaid := over
#print axioms proved
end Go.Proofs.Ytnikfjfcbpeieaa.bpduTurns
namespace Go.Proofs.Ytnikfjfcbpeieaa
/-- The row, under a short name, for the claim. -/
theorem bpduTurns_holds : Rows.BpduTurnsSaid := bpduTurns.proved
end Go.Proofs.Ytnikfjfcbpeieaa
