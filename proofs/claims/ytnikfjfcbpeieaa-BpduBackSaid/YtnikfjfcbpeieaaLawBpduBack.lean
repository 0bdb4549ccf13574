-- Laid by a program of this session; Lean checks it.
import Derived.Test.YtnikfjfcbpeieaaRows
import Derived.Test.YtnikfjfcbpeieaaMY
import Derived.Test.YtnikfjfcbpeieaaO52
import Derived.Test.YtnikfjfcbpeieaaMBPt
import Derived.WalkKit
import Derived.ProofKit
import Derived.OpenShut
import Derived.ShutString
import Derived.ChangeOld
import Derived.Below
import Derived.SizedLaws
import Derived.Lib.SmallJoins
import Derived.Conc.Holds
import Derived.Conc.LeavingOf
namespace Go.Proofs.Ytnikfjfcbpeieaa.bpduBack
open Go.ChangeShapes Go.WideShapes Go.ChangeAt Go.RowKit Go.Joins
open Go.ChangeMaps (open_string shut_string)
set_option linter.unusedVariables false
set_option linter.unusedSimpArgs false
theorem own : ownKnob Try.prog.godebug = none := by kernel_rfl
set_option maxRecDepth 100000 in
set_option maxHeartbeats 1600000 in
theorem lifted (os : Os) (started : os.Started) (H : Type) (enc : TypeId × Value → H) :
    ReturnsInLeavingWide Rows.bpduBackRow.assume Try.checked os 15 .any (Rows.bpduBackSpec.pre6 enc Try.prog Try.f15 Rows.bpduBackRow.domain false) (Rows.bpduBackSpec.post enc Try.prog Try.f15 false true false false) := by
  refine returnsInLeavingWide_of_change_sized (C := Try.checked) own started Try.func15
    (ChangeSpec.witness6 (enc := enc) (C := Try.checked) false ⟨#[], #[.agg #[.int .i64 0, .int .i64 0, .int .i64 0, .int .i64 0, .int .i64 0], .string ⟨#[]⟩], []⟩ 8 (by kernel_rfl) (by kernel_rfl) (by kernel_rfl) (by kernel_rfl)) ?_
  intro W base args ds gs before hval0 hW hcnd hsz0 _
  have hval : ∀ (j : Nat) t v, Try.f15.params[j]? = some t → args[j]? = some v → Value.okWide Try.prog W .any base t v := hval0
  have hW' := hW
  obtain ⟨p, q, hA0, hV, rfl, hfz, hnd⟩ := hW
  have hA : DataW.TrodAll enc Try.prog W 0 (fun _ => true) true Try.f15.params.toList args.toList ds p := hA0
  rw [Try.params15] at hA hval
  obtain ⟨v0, vs0, d0, ds0, p0, q0, hargs, rfl, rfl, h0, r0⟩ := trodAll_cons hA
  obtain ⟨v1, vs1, d1, ds1, p1, q1, rfl, rfl, rfl, h1, r1⟩ := trodAll_cons r0
  obtain ⟨rfl, rfl, rfl⟩ := trodAll_nil r1
  obtain rfl : args = #[v0, v1] := by cases args; simp_all
  obtain ⟨rfl, rfl⟩ := trodVars_none hV
  obtain ⟨a0_0, a0_1, a0_2, a0_3, a0_4, rfl, rfl, rfl, w0_0, w0_1, w0_2, w0_3, w0_4⟩ := O52.open_cfg (hval 0 52 v0 rfl rfl) h0
  obtain ⟨a1, rfl, rfl, rfl, w1⟩ := open_string Try.underlying9 (hval 1 9 v1 rfl rfl) h1
  clear hA0 hval0 hsz0
  have hends := Lk.company_of_lone (f := 15) (r := 4) (fn := Try.f15) (W := W) (args := #[O52.cv a0_0 a0_1 a0_2 a0_3 a0_4, .string a1]) (by rfl) (fun _ => rfl) Try.func15 Try.results15 (by kernel_rfl) ?ok (fun TT => (PBp.footwaylaw03_BpduBack.calls 2000 a0_0 a0_1 a0_2 a0_3 a0_4 a1 true (Lk.tape W TT) (Pure.BpduBack a0_0 a0_1 a0_2 a0_3 a0_4 a1)).mono fun e W2 h => h.1)
  case ok =>
    intro x hx
    simp only [List.mem_toArray, List.mem_cons, List.not_mem_nil, or_false] at hx
    rcases hx with rfl | rfl
    · refine .agg fun y hy => ?_
      simp only [List.mem_toArray, List.mem_cons, List.not_mem_nil, or_false] at hy
      rcases hy with rfl | rfl | rfl | rfl | rfl <;> exact .int _ _
    · exact .string _
  obtain ⟨M, last, o, w', t', h1, h2, h3, h4⟩ := hends
  exact ⟨M, last, o, w', t', h1, h2, h3, h4.mono fun v hv => by
    obtain ⟨rfl, bel⟩ := hv
    exact ⟨_, _, _, [], _, [], hW', trodAll_mk1 (shut_bool Try.underlying4 _), (trodAll_mk2 (O52.shut_cfg w0_0 w0_1 w0_2 w0_3 w0_4) (shut_string Try.underlying9 w1)), rfl, bel.frame _, fun h => by cases h⟩⟩
theorem over : Rows.bpduBackRow.holds Try.pinned (OpenSpec.ofChange Rows.bpduBackSpec) :=
  OpenClaim.holds_of_wide_leaving 15 Try.f15 rfl rfl rfl rfl rfl rfl rfl ⟨rfl, rfl, rfl, rfl, rfl⟩ rfl rfl rfl rfl rfl (by kernel_rfl) Try.func15 (by kernel_rfl)
    (of_decide_eq_true (by kernel_rfl)) (by unfold Func.isWrapper; first | (rw [if_pos (by decide +kernel)]; kernel_rfl) | (rw [if_neg (by decide +kernel)]; exact ⟨rfl, rfl⟩))
    (fun os started H enc _ => lifted os started H enc)
theorem proved : Rows.BpduBackSaid := over
#print axioms proved
end Go.Proofs.Ytnikfjfcbpeieaa.bpduBack
namespace Go.Proofs.Ytnikfjfcbpeieaa
/-- The row, under a short name, for the claim. -/
theorem bpduBack_holds : Rows.BpduBackSaid := bpduBack.proved
end Go.Proofs.Ytnikfjfcbpeieaa
