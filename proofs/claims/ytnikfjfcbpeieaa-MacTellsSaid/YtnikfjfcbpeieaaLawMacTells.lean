-- Laid by a program of this session; Lean checks it.
import Derived.Test.YtnikfjfcbpeieaaRows
import Derived.Test.YtnikfjfcbpeieaaPMax2
import Derived.Test.YtnikfjfcbpeieaaPureMacTells
import Derived.WalkKit
import Derived.Conc.HoldsTime
import Derived.Test.YtnikfjfcbpeieaaLv
import Derived.ProofKit
import Derived.OpenShut
import Derived.ShutString
import Derived.ChangeOld
import Derived.Below
import Derived.SizedLaws
import Derived.Lib.SmallJoins
namespace Go.Proofs.Ytnikfjfcbpeieaa.macTells
open Go.Conc Go.ChangeShapes Go.WideShapes Go.ChangeAt Go.RowKit Go.Joins
open Go.ChangeMaps (open_string shut_string)
set_option linter.unusedVariables false
set_option linter.unusedSimpArgs false
theorem own : ownKnob Try.prog.godebug = none := by kernel_rfl
theorem laidOut : laidOutB Try.prog = true := by kernel_rfl
set_option maxRecDepth 100000 in
set_option maxHeartbeats 1600000 in
theorem lifted (os : Os) (started : os.Started) (H : Type) (enc : TypeId × Value → H) (F : Stop.Interp) :
    ReturnsInLeavingWide Rows.macTellsRow.assume Try.checked os 7 .any (Rows.macTellsSpec.pre6 enc Try.prog Try.f7 Rows.macTellsRow.domain false) ((OpenSpec.ofChange Rows.macTellsSpec).postWith enc Try.prog Try.f7 F (outsideKept [.timePasses]) false true false) := by
  refine Lv.of_calls (C := Try.checked) own started (by kernel_rfl) Try.func7
    (ChangeSpec.witness6c (enc := enc) (C := Try.checked) ⟨#[], #[.int .i64 0], []⟩ 8 (by kernel_rfl) (by kernel_rfl) (by kernel_rfl) (by kernel_rfl)) ?_
  intro W base args ds gs before hval0 hW hcnd hsz0 _
  have hval : ∀ (j : Nat) t v, Try.f7.params[j]? = some t → args[j]? = some v → Value.okWide Try.prog W .any base t v := hval0
  have hW' := hW
  obtain ⟨p, q, hA0, hV, rfl, hfz, hnd⟩ := hW
  have hA : DataW.TrodAll enc Try.prog W 0 (fun _ => true) true Try.f7.params.toList args.toList ds p := hA0
  rw [Try.params7] at hA hval
  obtain ⟨v0, vs0, d0, ds0, p0, q0, hargs, rfl, rfl, h0, r0⟩ := trodAll_cons hA
  obtain ⟨rfl, rfl, rfl⟩ := trodAll_nil r0
  obtain rfl : args = #[v0] := by cases args; simp_all
  obtain ⟨rfl, rfl⟩ := trodVars_none hV
  obtain ⟨a0, rfl, rfl, rfl, w0⟩ := open_int Try.underlying3 (hval 0 3 v0 rfl rfl) h0
  clear hA0 hval0 hsz0
  refine (PMa.footwaylaw01_MacTells.calls 2000 a0 true W (Pure.MacTellsK a0)).mono fun e W' ⟨he, bel⟩ => ?_
  subst he
  refine ⟨_, rfl, ⟨_, _, _, [], _, [], hW', trodAll_mk1 (shut_bool Try.underlying4 _), (trodAll_mk1 (shut_int Try.underlying3 w0)), rfl, bel.frame _, fun h => by cases h⟩, bel.os⟩
theorem over : Rows.macTellsRow.holds Try.pinned (OpenSpec.ofChange Rows.macTellsSpec) :=
  OpenClaim.holds_of_wide_leaving_time 7 Try.f7 rfl rfl rfl rfl rfl rfl rfl ⟨rfl, rfl, rfl, rfl, rfl⟩ rfl rfl rfl rfl rfl (by kernel_rfl) Try.func7 (by kernel_rfl)
    (of_decide_eq_true (by kernel_rfl)) (by unfold Func.isWrapper; first | (rw [if_pos (by decide +kernel)]; kernel_rfl) | (rw [if_neg (by decide +kernel)]; exact ⟨rfl, rfl⟩))
    (fun os started H enc _ F => lifted os started H enc F)
theorem proved : Rows.MacTellsSaid := over
#print axioms proved
end Go.Proofs.Ytnikfjfcbpeieaa.macTells
namespace Go.Proofs.Ytnikfjfcbpeieaa
/-- The row, under a short name, for the claim. -/
theorem macTells_holds : Rows.MacTellsSaid := macTells.proved
end Go.Proofs.Ytnikfjfcbpeieaa
