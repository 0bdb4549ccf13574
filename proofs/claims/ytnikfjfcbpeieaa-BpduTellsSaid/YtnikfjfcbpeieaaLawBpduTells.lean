-- Laid by a program of this session; Lean checks it.
import Derived.Test.YtnikfjfcbpeieaaRows
import Derived.Test.YtnikfjfcbpeieaaMTY
import Derived.Test.YtnikfjfcbpeieaaMTO
import Derived.Test.YtnikfjfcbpeieaaMTPt
import Derived.WalkKit
import Derived.ProofKit
import Derived.OpenShut
import Derived.ShutString
import Derived.ChangeOld
import Derived.Below
import Derived.SizedLaws
import Derived.Lib.SmallJoins
import Derived.Conc.Holds
import Derived.Conc.LeavingOf
namespace Go.Proofs.Ytnikfjfcbpeieaa.bpduTells
open Go.ChangeShapes Go.WideShapes Go.ChangeAt Go.RowKit Go.Joins
open Go.ChangeMaps (open_string shut_string)
set_option linter.unusedVariables false
set_option linter.unusedSimpArgs false
theorem own : ownKnob Try.prog.godebug = none := by kernel_rfl
set_option maxRecDepth 100000 in
set_option maxHeartbeats 1600000 in
theorem lifted (os : Os) (started : os.Started) (H : Type) (enc : TypeId × Value → H) :
  ReturnsInLeavingWide Rows.bpduTellsRow.assume Try.checked os 14 .any (Rows.bpduTellsSpec.pre6 enc Try.prog Try.f14 Rows.bpduTellsRow.domain false) (Rows.bpduTellsSpec.post enc Try.prog Try.f14 false true false false) := by
 refine returnsInLeavingWide_of_change_sized (C := Try.checked) own started Try.func14
  (ChangeSpec.witness6 (enc := enc) (C := Try.checked) false ⟨#[], #[.agg #[.int .i64 0, .int .i64 0, .int .i64 0, .int .i64 0, .int .i64 0], .string ⟨#[]⟩, .string ⟨#[]⟩], []⟩ 8 (by kernel_rfl) (by kernel_rfl) (by kernel_rfl) (by kernel_rfl)) ?_
 intro W base args ds gs before hval0 hW hcnd hsz0 _
 have hval : ∀ (j : Nat) t v, Try.f14.params[j]? = some t → args[j]? = some v → Value.okWide Try.prog W .any base t v := hval0
 have hW' := hW
 obtain ⟨p, q, hA0, hV, rfl, hfz, hnd⟩ := hW
 have hA : DataW.TrodAll enc Try.prog W 0 (fun _ => true) true Try.f14.params.toList args.toList ds p := hA0
 rw [Try.params14] at hA hval
 obtain ⟨v0, vs0, d0, ds0, p0, q0, hargs, rfl, rfl, h0, r0⟩ := trodAll_cons hA
 obtain ⟨v1, vs1, d1, ds1, p1, q1, rfl, rfl, rfl, h1, r1⟩ := trodAll_cons r0
 obtain ⟨v2, vs2, d2, ds2, p2, q2, rfl, rfl, rfl, h2, r2⟩ := trodAll_cons r1
 obtain ⟨rfl, rfl, rfl⟩ := trodAll_nil r2
 obtain rfl : args = #[v0, v1, v2] := by cases args; simp_all
 obtain ⟨rfl, rfl⟩ := trodVars_none hV
 obtain ⟨a0_0, a0_1, a0_2, a0_3, a0_4, rfl, rfl, rfl, w0_0, w0_1, w0_2, w0_3, w0_4⟩ := O52.open_cfg (hval 0 52 v0 rfl rfl) h0
 obtain ⟨a1, rfl, rfl, rfl, w1⟩ := open_string Try.underlying9 (hval 1 9 v1 rfl rfl) h1
 obtain ⟨a2, rfl, rfl, rfl, w2⟩ := open_string Try.underlying9 (hval 2 9 v2 rfl rfl) h2
 clear hA0 hval0 hsz0
 have hends := Lk.company_of_lone (f := 14) (r := 6) (fn := Try.f14) (W := W) (args := #[O52.cv a0_0 a0_1 a0_2 a0_3 a0_4, .string a1, .string a2]) (by rfl) (fun _ => rfl) Try.func14 Try.results14 (by kernel_rfl) ?ok (fun TT => (PBp.footwaylaw03_BpduTells.calls 2000 a0_0 a0_1 a0_2 a0_3 a0_4 a1 a2 true (Lk.tape W TT) (Pure.BpduTells a0_0 a0_1 a0_2 a0_3 a0_4 a1 a2)).mono fun e W2 h => h.1)
 case ok =>
  intro x hx
  simp only [List.mem_toArray, List.mem_cons, List.not_mem_nil, or_false] at hx
  rcases hx with rfl | rfl | rfl
  ·refine .agg fun y hy => ?_
   simp only [List.mem_toArray, List.mem_cons, List.not_mem_nil, or_false] at hy
   rcases hy with rfl | rfl | rfl | rfl | rfl <;> exact .int _ _
  ·exact .string _
  ·exact .string _
 obtain ⟨M, last, o, w', t', h1, h2, h3, h4⟩ := hends
 exact ⟨M, last, o, w', t', h1, h2, h3, h4.mono fun v hv => by
  obtain ⟨rfl, bel⟩ := hv
  exact ⟨_, _, _, [], _, [], hW', trodAll_mk1 (shut_bool Try.underlying4 _), (trodAll_cons_mk (O52.shut_cfg w0_0 w0_1 w0_2 w0_3 w0_4) (trodAll_mk2 (shut_string Try.underlying9 w1) (shut_string Try.underlying9 w2))), rfl, bel.frame _, fun h => by cases h⟩⟩
theorem over : Rows.bpduTellsRow.holds Try.pinned (OpenSpec.ofChange Rows.bpduTellsSpec) :=
 OpenClaim.holds_of_wide_leaving 14 Try.f14 rfl rfl rfl rfl rfl rfl rfl ⟨rfl, rfl, rfl, rfl, rfl⟩ rfl rfl rfl rfl rfl (by kernel_rfl) Try.func14 (by kernel_rfl)
  (of_decide_eq_true (by kernel_rfl)) (by unfold Func.isWrapper; first | (rw [if_pos (by decide +kernel)]; kernel_rfl) | (rw [if_neg (by decide +kernel)]; exact ⟨rfl, rfl⟩))
  (fun os started H enc _ => lifted os started H enc)
theorem proved : Rows.BpduTellsSaid := over
#print axioms proved
end Go.Proofs.Ytnikfjfcbpeieaa.bpduTells
namespace Go.Proofs.Ytnikfjfcbpeieaa
/-- The row, under a short name, for the claim. -/
theorem bpduTells_holds : Rows.BpduTellsSaid := bpduTells.proved
end Go.Proofs.Ytnikfjfcbpeieaa
