-- Laid by a program of this session; Lean checks it.
import Derived.Test.YtnikfjfcbpeieaaRows
import Derived.Test.YtnikfjfcbpeieaaPMax2
import Derived.Test.YtnikfjfcbpeieaaPureMacOrder
import Derived.WalkKit
import Derived.Conc.HoldsTime
import Derived.Test.YtnikfjfcbpeieaaLv
import Derived.ProofKit
import Derived.OpenShut
import Derived.ShutString
import Derived.ChangeOld
import Derived.Below
import Derived.SizedLaws
import Derived.Lib.SmallJoins
namespace Go.Proofs.Ytnikfjfcbpeieaa.macOrder
open Go.Conc Go.ChangeShapes Go.WideShapes Go.ChangeAt Go.RowKit Go.Joins
open Go.ChangeMaps (open_string shut_string)
set_option linter.unusedVariables false
set_option linter.unusedSimpArgs false
theorem own : ownKnob Try.prog.godebug = none := by kernel_rfl
theorem laidOut : laidOutB Try.prog = true := by kernel_rfl
set_option maxRecDepth 100000 in
set_option maxHeartbeats 1600000 in
theorem lifted (os : Os) (started : os.Started) (H : Type) (enc : TypeId × Value → H) (F : Stop.Interp) :
    ReturnsInLeavingWide Rows.macOrderRow.assume Try.checked os 8 .any (Rows.macOrderSpec.pre6 enc Try.prog Try.f8 Rows.macOrderRow.domain false) ((OpenSpec.ofChange Rows.macOrderSpec).postWith enc Try.prog Try.f8 F (outsideKept [.timePasses]) false true false) := by
  refine Lv.of_calls (C := Try.checked) own started (by kernel_rfl) Try.func8
    (ChangeSpec.witness6c (enc := enc) (C := Try.checked) ⟨#[], #[.int .i64 0, .int .i64 0], []⟩ 8 (by kernel_rfl) (by kernel_rfl) (by kernel_rfl) (by kernel_rfl)) ?_
  intro W base args ds gs before hval0 hW hcnd hsz0 _
  have hval : ∀ (j : Nat) t v, Try.f8.params[j]? = some t → args[j]? = some v → Value.okWide Try.prog W .any base t v := hval0
  have hW' := hW
  obtain ⟨p, q, hA0, hV, rfl, hfz, hnd⟩ := hW
  have hA : DataW.TrodAll enc Try.prog W 0 (fun _ => true) true Try.f8.params.toList args.toList ds p := hA0
  rw [Try.params8] at hA hval
  obtain ⟨v0, vs0, d0, ds0, p0, q0, hargs, rfl, rfl, h0, r0⟩ := trodAll_cons hA
  obtain ⟨v1, vs1, d1, ds1, p1, q1, rfl, rfl, rfl, h1, r1⟩ := trodAll_cons r0
  obtain ⟨rfl, rfl, rfl⟩ := trodAll_nil r1
  obtain rfl : args = #[v0, v1] := by cases args; simp_all
  obtain ⟨rfl, rfl⟩ := trodVars_none hV
  obtain ⟨a0, rfl, rfl, rfl, w0⟩ := open_int Try.underlying3 (hval 0 3 v0 rfl rfl) h0
  obtain ⟨a1, rfl, rfl, rfl, w1⟩ := open_int Try.underlying3 (hval 1 3 v1 rfl rfl) h1
  clear hA0 hval0 hsz0
  refine (PMa.footwaylaw01_MacOrder.calls a0 a1 true W (Pure.MacOrderK a0 a1)).mono fun e W' ⟨he, bel⟩ => ?_
  subst he
  refine ⟨_, rfl, ⟨_, _, _, [], _, [], hW', trodAll_mk1 (shut_bool Try.underlying4 _), (trodAll_mk2 (shut_int Try.underlying3 w0) (shut_int Try.underlying3 w1)), rfl, bel.frame _, fun h => by cases h⟩, bel.os⟩
theorem over : Rows.macOrderRow.holds Try.pinned (OpenSpec.ofChange Rows.macOrderSpec) :=
  OpenClaim.holds_of_wide_leaving_time 8 Try.f8 rfl rfl rfl rfl rfl rfl rfl ⟨rfl, rfl, rfl, rfl, rfl⟩ rfl rfl rfl rfl rfl (by kernel_rfl) Try.func8 (by kernel_rfl)
    (of_decide_eq_true (by kernel_rfl)) (by unfold Func.isWrapper; first | (rw [if_pos (by decide +kernel)]; kernel_rfl) | (rw [if_neg (by decide +kernel)]; exact ⟨rfl, rfl⟩))
    (fun os started H enc _ F => lifted os started H enc F)
theorem proved : Rows.MacOrderSaid := over
#print axioms proved
end Go.Proofs.Ytnikfjfcbpeieaa.macOrder
namespace Go.Proofs.Ytnikfjfcbpeieaa
/-- The row, under a short name, for the claim. -/
theorem macOrder_holds : Rows.MacOrderSaid := macOrder.proved
end Go.Proofs.Ytnikfjfcbpeieaa
