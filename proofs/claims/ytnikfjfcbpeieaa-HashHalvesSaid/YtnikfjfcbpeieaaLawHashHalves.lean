-- Laid by a program of this session; Lean checks it.
import Derived.Test.YtnikfjfcbpeieaaRows
import Derived.Test.YtnikfjfcbpeieaaMK1
import Derived.Test.YtnikfjfcbpeieaaMT4
import Derived.Test.YtnikfjfcbpeieaaMW
import Derived.WalkKit
import Derived.ProofKit
import Derived.OpenShut
import Derived.ChangeOld
import Derived.Below
import Derived.SizedLaws
import Derived.Conc.HoldsTime
namespace Go.Proofs.Ytnikfjfcbpeieaa.hashHalves
open Go.ChangeShapes Go.WideShapes Go.ChangeAt Go.RowKit
open Go.ConcM (OsLater)
set_option linter.unusedVariables false
set_option linter.unusedSimpArgs false
set_option linter.constructorNameAsVariable false
theorem own : ownKnob Try.prog.godebug = none := by kernel_rfl
theorem laidOut : laidOutB Try.prog = true := by kernel_rfl
def IsRow (k : IntKind) (w : World) (a : Option Addr) (len cap : Nat) (zs : List Int) : Prop :=
 (a = none ∧ len = 0 ∧ cap = 0 ∧ zs = []) ∨
 ∃ x, a = some x ∧ len ≤ cap ∧ cap ≤ maxLen ∧ zs.length = cap ∧ (∀ i, i < zs.length → w.cell? (x.add i) = some (.int k (zs.getD i 0))) ∧ ∀ n ∈ zs, (Lit.int k n).wf = true
theorem has57 {w : World} {base : Nat} {x : Addr} {l c : Nat} (h : Value.okWide Try.prog w .any base 57 (.slice (some x) l c)) : x.spot = none ∧ x.block < w.heap.size := by
 simp only [Value.okWide, Try.underlying57, Cell.okWide, Cell.ok, World.has] at h
 obtain ⟨_, _, _, hs, row, cells, hsh, _⟩ := h
 refine ⟨hs, ?_⟩
 unfold World.shape? at hsh
 cases ho : w.heap[x.block]? with
 | none => rw [ho] at hsh; cases hsh
 | some ob => exact (Array.getElem?_eq_some_iff.1 ho).1
set_option maxRecDepth 100000 in
set_option maxHeartbeats 1600000 in
theorem lifted (os : Os) (started : os.Started) (H : Type) (enc : TypeId × Value → H) (F : Stop.Interp) :
  ReturnsInLeavingWide Rows.hashHalvesRow.assume Try.checked os 12 .any (Rows.hashHalvesSpec.pre6 enc Try.prog Try.f12 Rows.hashHalvesRow.domain false) ((OpenSpec.ofChange Rows.hashHalvesSpec).postWith enc Try.prog Try.f12 F (outsideKept [.timePasses]) false true false) := by
 refine returnsInLeavingWide_of_change_time (C := Try.checked) own started Try.func12
  (ChangeSpec.witness6c (enc := enc) (C := Try.checked) ⟨#[], #[.slice none 0 0, .int .i64 0, .int .i64 0], []⟩ 8 (by kernel_rfl) (by kernel_rfl) (by kernel_rfl) (by kernel_rfl)) ?_
 intro W base args ds gs before hval0 hW hcnd hsz0 _
 have hsz : (DataW.weightsEach Try.prog (Try.f12.params.toList ++ Rows.hashHalvesSpec.plain.varTypes Try.prog) (ds ++ gs)).all (· ≤ reachBytes) = true := hsz0
 have hval : ∀ (j : Nat) t v, Try.f12.params[j]? = some t → args[j]? = some v → Value.okWide Try.prog W .any base t v := hval0
 have hW' := hW
 obtain ⟨p, q, hA0, hV, rfl, hfz, hnd⟩ := hW
 have hA : DataW.TrodAll enc Try.prog W 0 (fun _ => true) true Try.f12.params.toList args.toList ds p := hA0
 rw [Try.params12] at hA hval hsz
 obtain ⟨v0, vs0, d0, ds0, p0, q0, hargs, rfl, rfl, h0, r0⟩ := trodAll_cons hA
 obtain ⟨v1, vs1, d1, ds1, p1, q1, rfl, rfl, rfl, h1, r1⟩ := trodAll_cons r0
 obtain ⟨v2, vs2, d2, ds2, p2, q2, rfl, rfl, rfl, h2, r2⟩ := trodAll_cons r1
 obtain ⟨rfl, rfl, rfl⟩ := trodAll_nil r2
 obtain rfl : args = #[v0, v1, v2] := by cases args; simp_all
 obtain ⟨rfl, rfl⟩ := trodVars_none hV
 obtain ⟨a0, len0, cap0, rfl⟩ := okWide_slice Try.underlying57 (hval 0 57 v0 rfl rfl)
 have k0 := h0
 have lt0 : ∀ x ∈ p0, x.block < W.heap.size := by obtain ⟨m, hm⟩ := k0; exact DataW.trod_lt m _ _ _ hm
 obtain ⟨z0, w0⟩ : ∃ zs, IsRow .i64 W a0 len0 cap0 zs := by
  obtain ⟨fuel, hf⟩ := h0
  rcases open_ints Try.underlying57 Try.underlying3 (by kernel_rfl) hf with ⟨hcs, _⟩ | ⟨x, l, c, zs, hcs, _, hl, hm, hz, _, hcell, hwz⟩
  ·simp [Value.cells] at hcs
   obtain ⟨rfl, rfl, rfl⟩ := hcs
   exact ⟨[], .inl ⟨rfl, rfl, rfl, rfl⟩⟩
  ·simp [Value.cells] at hcs
   obtain ⟨rfl, rfl, rfl⟩ := hcs
   exact ⟨zs, .inr ⟨_, rfl, hl, hm, by simpa using hz, hcell, hwz⟩⟩
 have y0 : len0 * 8 ≤ 140737488351232 := Go.Proofs.YtnikfjfcbpeieaaW.PrintWords.sized_ints hsz (j := 0) (t := 57) rfl rfl Try.underlying57 Try.underlying3 (by kernel_rfl) (by kernel_rfl) h0
 obtain ⟨a1, rfl, rfl, rfl, w1⟩ := open_int Try.underlying3 (hval 1 3 v1 rfl rfl) h1
 obtain ⟨a2, rfl, rfl, rfl, w2⟩ := open_int Try.underlying3 (hval 2 3 v2 rfl rfl) h2
 have hspot : ∀ x, a0 = some x → x.spot = none ∧ x.block < W.heap.size := fun x e => by subst e; exact has57 (hval 0 57 _ rfl rfl)
 clear hA0 hval0 hsz0 hsz
 have hends : Lk.Ends Try.prog (fun v w' => v = .bool true ∧ Below W.heap.size W { w' with os := W.os } ∧ OsLater W.os w'.os) (Conc.crowd #[Conc.G (Frame.enter Try.prog 12 #[.slice a0 len0 cap0, .int .i64 a1, .int .i64 a2] .normal) []] W none) #[] := by
  have lone_ : ∀ TT : Lk.TapeF, Calls Th.prog 12 #[.slice a0 len0 cap0, .int .i64 a1, .int .i64 a2] (Lk.tape W TT) fun e _ => e = .returned (.bool true) := fun TT => (PHp.footwaylaw07_HashHalves.walk Pure.HashHalves a0 len0 cap0 z0 a1 a2 (Lk.tape W TT) w0 y0 w1 w2).mono fun e W2 h => h.1
  rcases w0 with ⟨rfl, rfl, rfl, rfl⟩ | ⟨x, rfl, hl, hm, hz, hcell, hwz⟩
  ·letI : Lk.Zone := ⟨none, 0, 0⟩
   refine Hk.company_of_lone (f := 12) (r := 6) (fn := Try.f12) (W := W) (by rfl) (fun _ => rfl) Try.func12 Try.results12 (by kernel_rfl) (fun t v hv => .inl ?_) (fun b hb => by cases hb) lone_
   have hv := Array.mem_of_getElem? hv
   simp only [List.mem_toArray, List.mem_cons, List.not_mem_nil, or_false] at hv
   rcases hv with rfl | rfl | rfl
   ·exact Hk.okV_none
   ·exact .int _ _
   ·exact .int _ _
  ·obtain ⟨hsp, hblt⟩ := hspot x rfl
   letI : Lk.Zone := ⟨some x.block, x.off, x.off + cap0⟩
   refine Hk.company_of_lone (f := 12) (r := 6) (fn := Try.f12) (W := W) (by rfl) (fun _ => rfl) Try.func12 Try.results12 (by kernel_rfl) (fun t v hv => ?_) (fun b hb => ?_) lone_
   ·have hlt := (Array.getElem?_eq_some_iff.1 hv).1
    have hlt : t < 3 := by simpa using hlt
    have ht : t = 0 ∨ t = 1 ∨ t = 2 := by omega
    rcases ht with rfl | rfl | rfl
    ·cases hv; exact .inr ⟨by rw [Hk.dLh]; rfl, .slice ⟨rfl, hsp, Nat.le_refl _, Nat.le_refl _⟩ hl⟩
    ·cases hv; exact .inl (.int _ _)
    ·cases hv; exact .inl (.int _ _)
   ·cases hb
    refine ⟨hblt, fun i h1 h2 => ?_⟩
    have h1 : x.off ≤ i := h1
    have h2 : i < x.off + cap0 := h2
    have := hcell (i - x.off) (by omega)
    have e : x.add (i - x.off) = ⟨x.block, i, none⟩ := by
     obtain ⟨b, off, spot⟩ := x
     have hsp : spot = none := hsp
     subst hsp
     simp only at h1 h2 ⊢
     unfold Addr.add
     by_cases h0 : i - off = 0
     ·simp [h0]; omega
     ·simp [h0]; omega
    exact ⟨_, by rw [← e]; exact this⟩
 obtain ⟨M, last, o, w', t', h1', h2', h3', h4'⟩ := hends
 exact ⟨M, last, o, w', t', h1', h2', h3', h4'.mono fun v hv => by
  obtain ⟨rfl, bel, later⟩ := hv
  exact ⟨⟨_, _, _, [], _, [], hW', trodAll_mk1 (shut_bool Try.underlying4 _), (trodAll_cons_mk (Below.trod laidOut (by kernel_rfl) (of_decide_eq_true (by kernel_rfl)) k0 bel lt0) (trodAll_cons_mk (shut_int Try.underlying3 w1) (trodAll_cons_mk (shut_int Try.underlying3 w2) trodAll_mk0))), rfl, bel.frame _, fun h => by cases h⟩, later⟩⟩
theorem over : Rows.hashHalvesRow.holds Try.pinned (OpenSpec.ofChange Rows.hashHalvesSpec) :=
 OpenClaim.holds_of_wide_leaving_time 12 Try.f12 rfl rfl rfl rfl rfl rfl rfl ⟨rfl, rfl, rfl, rfl, rfl⟩ rfl rfl rfl rfl rfl (by kernel_rfl) Try.func12 (by kernel_rfl)
  (of_decide_eq_true (by kernel_rfl)) (by unfold Func.isWrapper; first | (rw [if_pos (by decide +kernel)]; kernel_rfl) | (rw [if_neg (by decide +kernel)]; exact ⟨rfl, rfl⟩))
  (fun os started H enc _ F => lifted os started H enc F)
theorem proved : Rows.HashHalvesSaid := over
#print axioms proved
end Go.Proofs.Ytnikfjfcbpeieaa.hashHalves
namespace Go.Proofs.Ytnikfjfcbpeieaa
/-- The row, under a short name, for the claim. -/
theorem hashHalves_holds : Rows.HashHalvesSaid := hashHalves.proved
end Go.Proofs.Ytnikfjfcbpeieaa
