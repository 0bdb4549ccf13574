/- The plans for the laws of hash: which functions are plain code; that of Spread turned. Written by mkka.py. -/
/- Walks of one goroutine over what is known of its temporaries, whatever they are for ('FE'); and a run alone of which little is known ('LT'). Written by mkkb.py. -/
/- The turned Spread, walked: over what is known; and alone, of what is not known. Written by mkkc.py. -/
/- The turned Spread: what it answers; and what whoever comes through it was handed. Written by mkkd.py. -/
/- A call of hash.Spread in company is, to whoever called, the turned one alone; from the turned program, run alone, to the program itself. -/
import Derived.Test.YtnikfjfcbpeieaaML
import Derived.Test.YtnikfjfcbpeieaaMK0
import Derived.KernelRfl
import Derived.Test.YtnikfjfcbpeieaaMH1
import Derived.Laws.Panics
import Derived.Test.YtnikfjfcbpeieaaMZ1
import Derived.Test.YtnikfjfcbpeieaaMH3
import Derived.Test.YtnikfjfcbpeieaaMH4
import Derived.Below
import Derived.Laws.Slices
import Derived.Test.YtnikfjfcbpeieaaMZ2
import Derived.Conc.LeavingOf
section
namespace Go.Proofs.Ytnikfjfcbpeieaa.Hk
open Go Go.Conc Go.Proofs.Ytnikfjfcbpeieaa.Lk
set_option linter.unusedVariables false
def plL : List Nat := [11, 12, 13, 33, 35, 36, 37, 42, 43, 44, 46, 47, 48, 49, 50, 51, 52, 53, 70, 78, 79]
def plB (g : Nat) : Bool := plL.contains g
def hoB (f t : Nat) : Option Nat := if f == 78 && t == 8 then some 1000000 else none
def diL : List (Nat × List Nat) := [(11, [2, 19, 20, 33, 39, 108, 129]), (12, [0, 22, 23, 25, 31, 94, 97, 101, 104, 107, 112, 114, 116, 118]), (13, [0, 20, 21, 29, 36]), (42, [0, 2, 3, 4, 7]), (45, [0, 5, 11]), (46, [0, 9]), (51, [0, 5, 9]), (52, [0, 16, 20])]
def diB (f t : Nat) : Bool := diL.any fun x => x.1 == f && x.2.contains t
def zrB (g : Nat) : Bool := g == 42
def clR (g : Nat) (r : ResultVar) : Bool := match r with | .tmp t => !diB g t | .cell a _ => !diB g a
noncomputable def Lh : Plan := ⟨Try.prog, Th.F, plB, fun g => g == 45, hoB, fun _ => false, fun _ => 2, diB, zrB⟩
noncomputable def Li : Plan := Lk.solo Th.prog (fun g => plB g || g == 45) hoB (fun _ => false) diB zrB
theorem plB_mem {g : Nat} (h : plB g = true) : g ∈ plL := by simpa [plB] using h
theorem nq11 : (Try.f11.name == "runtime.NumGoroutine") = false := by kernel_rfl
noncomputable def bd11 : Code := Try.f11.body.getD .skip
theorem bq11 : Try.f11.body = some bd11 := rfl
theorem rs11 : Try.f11.results.all (clR 11) = true ∨ (zrB 11 = true ∧ ∃ t, Try.f11.results = #[.tmp t]) := .inl (by kernel_rfl)
theorem cb11 : Lh.codeB 11 bd11 = true := by kernel_rfl
theorem cc11 : Li.codeB 11 bd11 = true := by kernel_rfl
theorem nq12 : (Try.f12.name == "runtime.NumGoroutine") = false := by kernel_rfl
noncomputable def bd12 : Code := Try.f12.body.getD .skip
theorem bq12 : Try.f12.body = some bd12 := rfl
theorem rs12 : Try.f12.results.all (clR 12) = true ∨ (zrB 12 = true ∧ ∃ t, Try.f12.results = #[.tmp t]) := .inl (by kernel_rfl)
theorem cb12 : Lh.codeB 12 bd12 = true := by kernel_rfl
theorem cc12 : Li.codeB 12 bd12 = true := by kernel_rfl
theorem nq13 : (Try.f13.name == "runtime.NumGoroutine") = false := by kernel_rfl
noncomputable def bd13 : Code := Try.f13.body.getD .skip
theorem bq13 : Try.f13.body = some bd13 := rfl
theorem rs13 : Try.f13.results.all (clR 13) = true ∨ (zrB 13 = true ∧ ∃ t, Try.f13.results = #[.tmp t]) := .inl (by kernel_rfl)
theorem cb13 : Lh.codeB 13 bd13 = true := by kernel_rfl
theorem cc13 : Li.codeB 13 bd13 = true := by kernel_rfl
theorem nq33 : (Try.f33.name == "runtime.NumGoroutine") = false := by kernel_rfl
noncomputable def bd33 : Code := Try.f33.body.getD .skip
theorem bq33 : Try.f33.body = some bd33 := rfl
theorem rs33 : Try.f33.results.all (clR 33) = true ∨ (zrB 33 = true ∧ ∃ t, Try.f33.results = #[.tmp t]) := .inl (by kernel_rfl)
theorem cb33 : Lh.codeB 33 bd33 = true := by kernel_rfl
theorem cc33 : Li.codeB 33 bd33 = true := by kernel_rfl
theorem nq35 : (Try.f35.name == "runtime.NumGoroutine") = false := by kernel_rfl
noncomputable def bd35 : Code := Try.f35.body.getD .skip
theorem bq35 : Try.f35.body = some bd35 := rfl
theorem rs35 : Try.f35.results.all (clR 35) = true ∨ (zrB 35 = true ∧ ∃ t, Try.f35.results = #[.tmp t]) := .inl (by kernel_rfl)
theorem cb35 : Lh.codeB 35 bd35 = true := by kernel_rfl
theorem cc35 : Li.codeB 35 bd35 = true := by kernel_rfl
theorem nq36 : (Try.f36.name == "runtime.NumGoroutine") = false := by kernel_rfl
noncomputable def bd36 : Code := Try.f36.body.getD .skip
theorem bq36 : Try.f36.body = some bd36 := rfl
theorem rs36 : Try.f36.results.all (clR 36) = true ∨ (zrB 36 = true ∧ ∃ t, Try.f36.results = #[.tmp t]) := .inl (by kernel_rfl)
theorem cb36 : Lh.codeB 36 bd36 = true := by kernel_rfl
theorem cc36 : Li.codeB 36 bd36 = true := by kernel_rfl
theorem nq37 : (Try.f37.name == "runtime.NumGoroutine") = false := by kernel_rfl
noncomputable def bd37 : Code := Try.f37.body.getD .skip
theorem bq37 : Try.f37.body = some bd37 := rfl
theorem rs37 : Try.f37.results.all (clR 37) = true ∨ (zrB 37 = true ∧ ∃ t, Try.f37.results = #[.tmp t]) := .inl (by kernel_rfl)
theorem cb37 : Lh.codeB 37 bd37 = true := by kernel_rfl
theorem cc37 : Li.codeB 37 bd37 = true := by kernel_rfl
theorem nq42 : (Try.f42.name == "runtime.NumGoroutine") = false := by kernel_rfl
noncomputable def bd42 : Code := Try.f42.body.getD .skip
theorem bq42 : Try.f42.body = some bd42 := rfl
theorem rs42 : Try.f42.results.all (clR 42) = true ∨ (zrB 42 = true ∧ ∃ t, Try.f42.results = #[.tmp t]) := .inr ⟨rfl, _, Try.results42⟩
theorem cb42 : Lh.codeB 42 bd42 = true := by kernel_rfl
theorem cc42 : Li.codeB 42 bd42 = true := by kernel_rfl
theorem nq43 : (Try.f43.name == "runtime.NumGoroutine") = false := by kernel_rfl
noncomputable def bd43 : Code := Try.f43.body.getD .skip
theorem bq43 : Try.f43.body = some bd43 := rfl
theorem rs43 : Try.f43.results.all (clR 43) = true ∨ (zrB 43 = true ∧ ∃ t, Try.f43.results = #[.tmp t]) := .inl (by kernel_rfl)
theorem cb43 : Lh.codeB 43 bd43 = true := by kernel_rfl
theorem cc43 : Li.codeB 43 bd43 = true := by kernel_rfl
theorem nq44 : (Try.f44.name == "runtime.NumGoroutine") = false := by kernel_rfl
noncomputable def bd44 : Code := Try.f44.body.getD .skip
theorem bq44 : Try.f44.body = some bd44 := rfl
theorem rs44 : Try.f44.results.all (clR 44) = true ∨ (zrB 44 = true ∧ ∃ t, Try.f44.results = #[.tmp t]) := .inl (by kernel_rfl)
theorem cb44 : Lh.codeB 44 bd44 = true := by kernel_rfl
theorem cc44 : Li.codeB 44 bd44 = true := by kernel_rfl
theorem nq46 : (Try.f46.name == "runtime.NumGoroutine") = false := by kernel_rfl
noncomputable def bd46 : Code := Try.f46.body.getD .skip
theorem bq46 : Try.f46.body = some bd46 := rfl
theorem rs46 : Try.f46.results.all (clR 46) = true ∨ (zrB 46 = true ∧ ∃ t, Try.f46.results = #[.tmp t]) := .inl (by kernel_rfl)
theorem cb46 : Lh.codeB 46 bd46 = true := by kernel_rfl
theorem cc46 : Li.codeB 46 bd46 = true := by kernel_rfl
theorem nq47 : (Try.f47.name == "runtime.NumGoroutine") = false := by kernel_rfl
noncomputable def bd47 : Code := Try.f47.body.getD .skip
theorem bq47 : Try.f47.body = some bd47 := rfl
theorem rs47 : Try.f47.results.all (clR 47) = true ∨ (zrB 47 = true ∧ ∃ t, Try.f47.results = #[.tmp t]) := .inl (by kernel_rfl)
theorem cb47 : Lh.codeB 47 bd47 = true := by kernel_rfl
theorem cc47 : Li.codeB 47 bd47 = true := by kernel_rfl
theorem nq48 : (Try.f48.name == "runtime.NumGoroutine") = false := by kernel_rfl
noncomputable def bd48 : Code := Try.f48.body.getD .skip
theorem bq48 : Try.f48.body = some bd48 := rfl
theorem rs48 : Try.f48.results.all (clR 48) = true ∨ (zrB 48 = true ∧ ∃ t, Try.f48.results = #[.tmp t]) := .inl (by kernel_rfl)
theorem cb48 : Lh.codeB 48 bd48 = true := by kernel_rfl
theorem cc48 : Li.codeB 48 bd48 = true := by kernel_rfl
theorem nq49 : (Try.f49.name == "runtime.NumGoroutine") = false := by kernel_rfl
noncomputable def bd49 : Code := Try.f49.body.getD .skip
theorem bq49 : Try.f49.body = some bd49 := rfl
theorem rs49 : Try.f49.results.all (clR 49) = true ∨ (zrB 49 = true ∧ ∃ t, Try.f49.results = #[.tmp t]) := .inl (by kernel_rfl)
theorem cb49 : Lh.codeB 49 bd49 = true := by kernel_rfl
theorem cc49 : Li.codeB 49 bd49 = true := by kernel_rfl
theorem nq50 : (Try.f50.name == "runtime.NumGoroutine") = false := by kernel_rfl
noncomputable def bd50 : Code := Try.f50.body.getD .skip
theorem bq50 : Try.f50.body = some bd50 := rfl
theorem rs50 : Try.f50.results.all (clR 50) = true ∨ (zrB 50 = true ∧ ∃ t, Try.f50.results = #[.tmp t]) := .inl (by kernel_rfl)
theorem cb50 : Lh.codeB 50 bd50 = true := by kernel_rfl
theorem cc50 : Li.codeB 50 bd50 = true := by kernel_rfl
theorem nq51 : (Try.f51.name == "runtime.NumGoroutine") = false := by kernel_rfl
noncomputable def bd51 : Code := Try.f51.body.getD .skip
theorem bq51 : Try.f51.body = some bd51 := rfl
theorem rs51 : Try.f51.results.all (clR 51) = true ∨ (zrB 51 = true ∧ ∃ t, Try.f51.results = #[.tmp t]) := .inl (by kernel_rfl)
theorem cb51 : Lh.codeB 51 bd51 = true := by kernel_rfl
theorem cc51 : Li.codeB 51 bd51 = true := by kernel_rfl
theorem nq52 : (Try.f52.name == "runtime.NumGoroutine") = false := by kernel_rfl
noncomputable def bd52 : Code := Try.f52.body.getD .skip
theorem bq52 : Try.f52.body = some bd52 := rfl
theorem rs52 : Try.f52.results.all (clR 52) = true ∨ (zrB 52 = true ∧ ∃ t, Try.f52.results = #[.tmp t]) := .inl (by kernel_rfl)
theorem cb52 : Lh.codeB 52 bd52 = true := by kernel_rfl
theorem cc52 : Li.codeB 52 bd52 = true := by kernel_rfl
theorem nq53 : (Try.f53.name == "runtime.NumGoroutine") = false := by kernel_rfl
noncomputable def bd53 : Code := Try.f53.body.getD .skip
theorem bq53 : Try.f53.body = some bd53 := rfl
theorem rs53 : Try.f53.results.all (clR 53) = true ∨ (zrB 53 = true ∧ ∃ t, Try.f53.results = #[.tmp t]) := .inl (by kernel_rfl)
theorem cb53 : Lh.codeB 53 bd53 = true := by kernel_rfl
theorem cc53 : Li.codeB 53 bd53 = true := by kernel_rfl
theorem nq70 : (Try.f70.name == "runtime.NumGoroutine") = false := by kernel_rfl
noncomputable def bd70 : Code := Try.f70.body.getD .skip
theorem bq70 : Try.f70.body = some bd70 := rfl
theorem rs70 : Try.f70.results.all (clR 70) = true ∨ (zrB 70 = true ∧ ∃ t, Try.f70.results = #[.tmp t]) := .inl (by kernel_rfl)
theorem cb70 : Lh.codeB 70 bd70 = true := by kernel_rfl
theorem cc70 : Li.codeB 70 bd70 = true := by kernel_rfl
theorem nq78 : (Try.f78.name == "runtime.NumGoroutine") = false := by kernel_rfl
noncomputable def bd78 : Code := Try.f78.body.getD .skip
theorem bq78 : Try.f78.body = some bd78 := rfl
theorem rs78 : Try.f78.results.all (clR 78) = true ∨ (zrB 78 = true ∧ ∃ t, Try.f78.results = #[.tmp t]) := .inl (by kernel_rfl)
theorem cb78 : Lh.codeB 78 bd78 = true := by kernel_rfl
theorem cc78 : Li.codeB 78 bd78 = true := by kernel_rfl
theorem nq79 : (Try.f79.name == "runtime.NumGoroutine") = false := by kernel_rfl
noncomputable def bd79 : Code := Try.f79.body.getD .skip
theorem bq79 : Try.f79.body = some bd79 := rfl
theorem rs79 : Try.f79.results.all (clR 79) = true ∨ (zrB 79 = true ∧ ∃ t, Try.f79.results = #[.tmp t]) := .inl (by kernel_rfl)
theorem cb79 : Lh.codeB 79 bd79 = true := by kernel_rfl
theorem cc79 : Li.codeB 79 bd79 = true := by kernel_rfl
theorem nq45 : (Try.f45.name == "runtime.NumGoroutine") = false := by kernel_rfl
theorem nr45 : (Th.f45.name == "runtime.NumGoroutine") = false := nq45
theorem cc45 : Li.codeB 45 Th.c45 = true := by kernel_rfl
theorem fns_b : ∀ g, g ∈ plL → ∃ fn, Try.prog.funcs[g]? = some fn ∧ Th.prog.funcs[g]? = some fn ∧ (fn.name == "runtime.NumGoroutine") = false ∧ (∃ c, fn.body = some c ∧ Lh.codeB g c = true ∧ Li.codeB g c = true) ∧ (fn.results.all (clR g) = true ∨ (zrB g = true ∧ ∃ t, fn.results = #[.tmp t])) := by
 intro g hg
 simp only [plL, List.mem_cons, List.not_mem_nil, or_false] at hg
 rcases hg with rfl | rfl | rfl | rfl | rfl | rfl | rfl | rfl | rfl | rfl | rfl | rfl | rfl | rfl | rfl | rfl | rfl | rfl | rfl | rfl | rfl
 ·exact ⟨Try.f11, Try.func11, Th.func11, nq11, ⟨bd11, bq11, cb11, cc11⟩, rs11⟩
 ·exact ⟨Try.f12, Try.func12, Th.func12, nq12, ⟨bd12, bq12, cb12, cc12⟩, rs12⟩
 ·exact ⟨Try.f13, Try.func13, Th.func13, nq13, ⟨bd13, bq13, cb13, cc13⟩, rs13⟩
 ·exact ⟨Try.f33, Try.func33, Th.func33, nq33, ⟨bd33, bq33, cb33, cc33⟩, rs33⟩
 ·exact ⟨Try.f35, Try.func35, Th.func35, nq35, ⟨bd35, bq35, cb35, cc35⟩, rs35⟩
 ·exact ⟨Try.f36, Try.func36, Th.func36, nq36, ⟨bd36, bq36, cb36, cc36⟩, rs36⟩
 ·exact ⟨Try.f37, Try.func37, Th.func37, nq37, ⟨bd37, bq37, cb37, cc37⟩, rs37⟩
 ·exact ⟨Try.f42, Try.func42, Th.func42, nq42, ⟨bd42, bq42, cb42, cc42⟩, rs42⟩
 ·exact ⟨Try.f43, Try.func43, Th.func43, nq43, ⟨bd43, bq43, cb43, cc43⟩, rs43⟩
 ·exact ⟨Try.f44, Try.func44, Th.func44, nq44, ⟨bd44, bq44, cb44, cc44⟩, rs44⟩
 ·exact ⟨Try.f46, Try.func46, Th.func46, nq46, ⟨bd46, bq46, cb46, cc46⟩, rs46⟩
 ·exact ⟨Try.f47, Try.func47, Th.func47, nq47, ⟨bd47, bq47, cb47, cc47⟩, rs47⟩
 ·exact ⟨Try.f48, Try.func48, Th.func48, nq48, ⟨bd48, bq48, cb48, cc48⟩, rs48⟩
 ·exact ⟨Try.f49, Try.func49, Th.func49, nq49, ⟨bd49, bq49, cb49, cc49⟩, rs49⟩
 ·exact ⟨Try.f50, Try.func50, Th.func50, nq50, ⟨bd50, bq50, cb50, cc50⟩, rs50⟩
 ·exact ⟨Try.f51, Try.func51, Th.func51, nq51, ⟨bd51, bq51, cb51, cc51⟩, rs51⟩
 ·exact ⟨Try.f52, Try.func52, Th.func52, nq52, ⟨bd52, bq52, cb52, cc52⟩, rs52⟩
 ·exact ⟨Try.f53, Try.func53, Th.func53, nq53, ⟨bd53, bq53, cb53, cc53⟩, rs53⟩
 ·exact ⟨Try.f70, Try.func70, Th.func70, nq70, ⟨bd70, bq70, cb70, cc70⟩, rs70⟩
 ·exact ⟨Try.f78, Try.func78, Th.func78, nq78, ⟨bd78, bq78, cb78, cc78⟩, rs78⟩
 ·exact ⟨Try.f79, Try.func79, Th.func79, nq79, ⟨bd79, bq79, cb79, cc79⟩, rs79⟩
theorem res_of {g : Nat} {fn : Func} (h : fn.results.all (clR g) = true ∨ (zrB g = true ∧ ∃ t, fn.results = #[.tmp t])) : (∀ r : ResultVar, r ∈ fn.results → (match r with | .tmp t => diB g t = false | .cell a _ => diB g a = false)) ∨ (zrB g = true ∧ ∃ t, fn.results = #[.tmp t]) := by
 refine h.imp (fun h r hr => ?_) id
 have := (Array.all_eq_true_iff_forall_mem.1 h) r hr
 cases r <;> simpa [clR] using this
theorem Lh_good : Lh.Good := by
 refine ⟨fun g hg => ?_, fun g hg => ?_, fun g fn c hg hf hc => ?_, fun g hg t => ?_, fun g hg => ?_, fun g fn hg hf => ?_⟩
 ·cases hp : plB g with
  | true =>
   obtain ⟨fn, h1, h2, h3, ⟨c, h4, _⟩, _⟩ := fns_b g (plB_mem hp)
   exact ⟨fn, fn, h1, h2, h3, h3, by rw [h4]; rfl, by rw [h4]; rfl, rfl⟩
  | false =>
   have : g = 45 := by simpa [Plan.known, Lh, hp] using hg
   subst this
   refine ⟨Try.f45, Th.f45, Try.func45, Th.func45, nq45, nr45, rfl, rfl, ?_⟩
   show Th.f45.norace = Try.f45.norace
   unfold Th.f45
   rfl
 ·obtain ⟨fn, h1, h2, _⟩ := fns_b g (plB_mem hg)
  exact h2.trans h1.symm
 ·obtain ⟨fn', h1, h2, h3, ⟨c', h4, h5, h6⟩, _⟩ := fns_b g (plB_mem hg)
  have e1 : fn' = fn := Option.some.inj (h1.symm.trans hf)
  rw [← e1, h4] at hc
  cases hc
  exact h5
 ·cases hg
 ·have : g = 45 := by simpa [Lh] using hg
  subst this
  rfl
 ·obtain ⟨fn', h1, _, _, _, h7⟩ := fns_b g (plB_mem hg)
  have e1 : fn' = fn := Option.some.inj (h1.symm.trans hf)
  rw [e1] at h7
  exact res_of h7
theorem Li_P : Li.P = Th.prog := by unfold Li Lk.solo; rfl
theorem solo_F (P : Program) (pl : Nat → Bool) (ho : Nat → Nat → Option Nat) (ba : Nat → Bool) (di : Nat → Nat → Bool) (zr : Nat → Bool) : (Lk.solo P pl ho ba di zr).F = P.funcs := rfl
theorem Li_F : Li.F = Th.prog.funcs := solo_F _ _ _ _ _ _
theorem Li_good : Li.Good := by
 have key : ∀ g, (plB g || g == 45) = true → ∃ fn, Th.prog.funcs[g]? = some fn ∧ (fn.name == "runtime.NumGoroutine") = false ∧ (∃ c, fn.body = some c ∧ Li.codeB g c = true) ∧ (fn.results.all (clR g) = true ∨ (zrB g = true ∧ ∃ t, fn.results = #[.tmp t])) := by
  intro g hg
  cases hp : plB g with
  | true =>
   obtain ⟨fn, h1, h2, h3, ⟨c, h4, _, h6⟩, h7⟩ := fns_b g (plB_mem hp)
   exact ⟨fn, h2, h3, ⟨c, h4, h6⟩, h7⟩
  | false =>
   have : g = 45 := by simpa [hp] using hg
   subst this
   exact ⟨Th.f45, Th.func45, nr45, ⟨Th.c45, (by unfold Th.f45; rfl), cc45⟩, .inl (by kernel_rfl)⟩
 refine ⟨fun g hg => ?_, fun g hg => (by rw [Li_P, Li_F]), fun g fn c hg hf hc => ?_, fun g hg t => ?_, fun g hg => ?_, fun g fn hg hf => ?_⟩
 ·obtain ⟨fn, h1, h2, ⟨c, h3, _⟩, _⟩ := key g (by simpa [Plan.known, Li, Lk.solo] using hg)
  exact ⟨fn, fn, by rw [Li_P]; exact h1, by rw [Li_F]; exact h1, h2, h2, by rw [h3]; rfl, by rw [h3]; rfl, rfl⟩
 ·obtain ⟨fn', h1, h2, ⟨c', h3, h4⟩, _⟩ := key g hg
  rw [Li_P] at hf
  have e1 : fn' = fn := Option.some.inj (h1.symm.trans hf)
  rw [← e1, h3] at hc
  cases hc
  exact h4
 ·cases hg
 ·cases hg
 ·obtain ⟨fn', h1, _, _, h7⟩ := key g hg
  rw [Li_P] at hf
  have e1 : fn' = fn := Option.some.inj (h1.symm.trans hf)
  rw [e1] at h7
  exact res_of h7
theorem Lh_P' : Lh.P' = Th.prog := by kernel_rfl
end Go.Proofs.Ytnikfjfcbpeieaa.Hk
end
section
namespace Go.Proofs.Ytnikfjfcbpeieaa.Hk
open Go Go.Conc Go.RowKit Go.Proofs.Ytnikfjfcbpeieaa.Lk
open Go.ConcR.Gen
set_option linter.unusedVariables false
set_option linter.unusedSimpArgs false
structure Clos (P : Program) (C : List Frame) (J : Frame → World → Prop) (Ok : Array Value → Prop) (Vok : Value → Prop) : Prop where
 go : ∀ (f f1 : Frame) (w w1 : World) (es : Array Event), stepG P true (G f C) w = .go (G f1 C) w1 es → J f1 w1 → J f w
 put : ∀ (T : Array Value) (d : Option Tmp) (v : Value), Ok T → Vok v → Ok (Act.put ⟨T, []⟩ d v).tmps
def FE (J : Frame → World → Prop) (Ok : Array Value → Prop) (b : Frame) (N : Nat) (ρ : Rho) (k : List Item) (w : World) : Prop :=
 ∀ T : Array Value, T.size = N → Ok T → Looks ρ T → J (b.at ⟨T, []⟩ k) w
section
variable {P : Program} {C : List Frame} {J : Frame → World → Prop} {Ok : Array Value → Prop} {Vok : Value → Prop} {b : Frame} {N : Nat} {ρ : Rho} {k : List Item} {w : World}
theorem FE.to (ρ' : Rho) (s : Sub ρ ρ') (h : FE J Ok b N ρ' k w) : FE J Ok b N ρ k w := fun T hT ho hl => h T hT ho (hl.sub s)
theorem FE.skip (U : Clos P C J Ok Vok) (h : FE J Ok b N ρ k w) : FE J Ok b N ρ (.code .skip :: k) w := fun T hT ho hl => U.go _ _ _ _ _ stepG_skip (h T hT ho hl)
theorem FE.inBlock {id : Nat} (U : Clos P C J Ok Vok) (h : FE J Ok b N ρ k w) : FE J Ok b N ρ (.inBlock id :: k) w := fun T hT ho hl => U.go _ _ _ _ _ stepG_inBlock (h T hT ho hl)
theorem FE.seq {x y : Code} (U : Clos P C J Ok Vok) (h : FE J Ok b N ρ (.code x :: .code y :: k) w) : FE J Ok b N ρ (.code (.seq x y) :: k) w := fun T hT ho hl => U.go _ _ _ _ _ stepG_seq (h T hT ho hl)
theorem FE.cond {c : Operand} {x y : Code} (t : Bool) (U : Clos P C J Ok Vok) (e : ev ρ c = some (.bool t)) (h : FE J Ok b N ρ (.code (if t then x else y) :: k) w) : FE J Ok b N ρ (.code (.cond c x y) :: k) w := fun T hT ho hl => U.go _ _ _ _ _ (stepG_cond (hl.ev e)) (h T hT ho hl)
theorem FE.block {id : Nat} {c : Code} (U : Clos P C J Ok Vok) (h : FE J Ok b N ρ (.code c :: .inBlock id :: k) w) : FE J Ok b N ρ (.code (.block id c) :: k) w := fun T hT ho hl => U.go _ _ _ _ _ stepG_block (h T hT ho hl)
theorem FE.loop {c : Code} (U : Clos P C J Ok Vok) (h : FE J Ok b N ρ (.code c :: .inLoop c :: k) w) : FE J Ok b N ρ (.code (.loop c) :: k) w := fun T hT ho hl => U.go _ _ _ _ _ stepG_loop (h T hT ho hl)
theorem FE.inLoop {c : Code} (U : Clos P C J Ok Vok) (h : FE J Ok b N ρ (.code c :: .inLoop c :: k) w) : FE J Ok b N ρ (.inLoop c :: k) w := fun T hT ho hl => U.go _ _ _ _ _ stepG_inLoop (h T hT ho hl)
theorem FE.exit {id : Nat} {k' : List Item} (U : Clos P C J Ok Vok) (e : exitTo id k = some k') (h : FE J Ok b N ρ k' w) : FE J Ok b N ρ (.code (.exit id) :: k) w := fun T hT ho hl => U.go _ _ _ _ _ (stepG_exit e) (h T hT ho hl)
theorem FE.region {id : Nat} {ops : Array Oper} (l : List Nat) (U : Clos P C J Ok Vok) (e : List.range ops.size = l) (h : FE J Ok b N ρ (.inRegion ops l :: k) w) : FE J Ok b N ρ (.code (.region id ops false) :: k) w := fun T hT ho hl => U.go _ _ _ _ _ (by rw [← e]; exact stepG_region) (h T hT ho hl)
theorem FE.regionEnd {ops : Array Oper} (U : Clos P C J Ok Vok) (h : FE J Ok b N ρ k w) : FE J Ok b N ρ (.inRegion ops [] :: k) w := fun T hT ho hl => U.go _ _ _ _ _ stepG_region_end (h T hT ho hl)
theorem FE.ret (U : Clos P C J Ok Vok) (h : ∀ T : Array Value, T.size = N → Ok T → Looks ρ T → J { b.at ⟨T, []⟩ (.code .ret :: k) with mode := .returning } w) : FE J Ok b N ρ (.code .ret :: k) w := fun T hT ho hl => U.go _ _ _ _ _ stepG_ret' (h T hT ho hl)
variable {ops : Array Oper} {i : Nat} {rest : List Nat} {o : Oper}
theorem FE.val {v : Value} {w1 : World} (U : Clos P C J Ok Vok) (ho : ops[i]? = some o) (hw : wantB ops ρ o = some true) (hk : b.kind ≠ .early) (hd : o.dst.all (· < N) = true) (hv : Vok v)
  (hr : ∀ e : Operand → Value, (∀ x u, ev ρ x = some u → e x = u) → (execOp e o).run P w = .ok (.value v) w1)
  (h : FE J Ok b N (ρ.put o.dst v) (.inRegion ops rest :: k) w1) : FE J Ok b N ρ (.inRegion ops (i :: rest) :: k) w := fun T hT hO hl => by
 refine U.go _ _ _ _ _ (stepG_value ho (hl.want hw) hk (hr _ fun x u e => hl.ev e)) ?_
 rw [put_act]
 exact h _ (by rw [put_size, hT]) (U.put T o.dst v hO hv) (hl.put (by rw [hT]; exact hd))
theorem FE.none {w1 : World} (U : Clos P C J Ok Vok) (ho : ops[i]? = some o) (hw : wantB ops ρ o = some true) (hk : b.kind ≠ .early) (hd : o.dst.all (· < N) = true) (hv : Vok undef)
  (hr : ∀ e : Operand → Value, (∀ x u, ev ρ x = some u → e x = u) → (execOp e o).run P w = .ok .skip w1)
  (h : FE J Ok b N (ρ.put o.dst undef) (.inRegion ops rest :: k) w1) : FE J Ok b N ρ (.inRegion ops (i :: rest) :: k) w := fun T hT hO hl => by
 refine U.go _ _ _ _ _ (stepG_none ho (hl.want hw) hk (hr _ fun x u e => hl.ev e)) ?_
 rw [put_act]
 exact h _ (by rw [put_size, hT]) (U.put T o.dst undef hO hv) (hl.put (by rw [hT]; exact hd))
theorem FE.mv {x : Operand} {v : Value} (U : Clos P C J Ok Vok) (ho : ops[i]? = some o) (hop : o.op = .move x) (hw : wantB ops ρ o = some true) (hk : b.kind ≠ .early) (hd : o.dst.all (· < N) = true) (hx : ev ρ x = some v) (hv : Vok v)
  (h : FE J Ok b N (ρ.put o.dst v) (.inRegion ops rest :: k) w) : FE J Ok b N ρ (.inRegion ops (i :: rest) :: k) w :=
 FE.val U ho hw hk hd hv (fun e he => by rw [show execOp e o = pure (.value v) by simp [execOp, hop, he x v hx]]; rfl) h
theorem FE.as {x : Operand} {v : Value} (U : Clos P C J Ok Vok) (ho : ops[i]? = some o) (hop : o.op = .assign x) (hw : wantB ops ρ o = some true) (hk : b.kind ≠ .early) (hd : o.dst.all (· < N) = true) (hx : ev ρ x = some v) (hv : Vok v)
  (h : FE J Ok b N (ρ.put o.dst v) (.inRegion ops rest :: k) w) : FE J Ok b N ρ (.inRegion ops (i :: rest) :: k) w :=
 FE.val U ho hw hk hd hv (fun e he => by rw [show execOp e o = pure (.value v) by simp [execOp, hop, he x v hx]]; rfl) h
theorem FE.pick {c x y : Operand} {t : Bool} {v : Value} (U : Clos P C J Ok Vok) (ho : ops[i]? = some o) (hop : o.op = .pick c x y) (hw : wantB ops ρ o = some true) (hk : b.kind ≠ .early) (hd : o.dst.all (· < N) = true) (hc : ev ρ c = some (.bool t)) (hx : ∃ p q, ev ρ x = some p ∧ ev ρ y = some q ∧ (if t then p else q) = v) (hv : Vok v)
  (h : FE J Ok b N (ρ.put o.dst v) (.inRegion ops rest :: k) w) : FE J Ok b N ρ (.inRegion ops (i :: rest) :: k) w :=
 FE.val U ho hw hk hd hv (fun e he => by
  obtain ⟨p, q, h1, h2, h3⟩ := hx
  have hv : (if t then e x else e y) = v := by rw [he x p h1, he y q h2]; exact h3
  rw [show execOp e o = pure (.value v) by simp only [execOp, hop, he c _ hc, asBool]; simp only [pure_bind]; rw [hv]]; rfl) h
theorem FE.ask {s : Sem Value} {v : Value} {w1 : World} (U : Clos P C J Ok Vok) (ho : ops[i]? = some o) (hw : wantB ops ρ o = some true) (hk : b.kind ≠ .early) (hd : o.dst.all (· < N) = true) (hv : Vok v)
  (hs : ∀ e : Operand → Value, (∀ x u, ev ρ x = some u → e x = u) → execOp e o = (do pure (.value (← s)))) (hr : s.run P w = .ok v w1)
  (h : FE J Ok b N (ρ.put o.dst v) (.inRegion ops rest :: k) w1) : FE J Ok b N ρ (.inRegion ops (i :: rest) :: k) w :=
 FE.val U ho hw hk hd hv (fun e h' => by rw [hs e h']; simp [hr, Result.andThen]) h
theorem FE.bin {op : BinOp} {x y : Operand} {tx ty : TypeId} {kx ky : IntKind} {a c : Int} {v : Value} (U : Clos P C J Ok Vok) (ho : ops[i]? = some o) (hop : o.op = .binOp op tx x y ty) (hw : wantB ops ρ o = some true) (hk : b.kind ≠ .early) (hd : o.dst.all (· < N) = true)
  (hx : ev ρ x = some (.int kx a)) (hy : ev ρ y = some (.int ky c)) (hr : binOp op tx (.int kx a) (.int ky c) = pure v) (hv : Vok v)
  (h : FE J Ok b N (ρ.put o.dst v) (.inRegion ops rest :: k) w) : FE J Ok b N ρ (.inRegion ops (i :: rest) :: k) w :=
 FE.ask (s := pure v) U ho hw hk hd hv (fun e he => by
  have hq : eqGuard op tx x y (.int kx a) (.int ky c) = pure () := by cases op <;> rfl
  simp only [execOp, hop, he x _ hx, he y _ hy, hq, hr, pure_bind]) rfl h
theorem FE.cv {x : Operand} {s t : TypeId} {u v : Value} {w1 : World} (U : Clos P C J Ok Vok) (ho : ops[i]? = some o) (hop : o.op = .convert s t x) (hw : wantB ops ρ o = some true) (hk : b.kind ≠ .early) (hd : o.dst.all (· < N) = true) (hx : ev ρ x = some u) (hr : (convert s t u).run P w = .ok v w1) (hv : Vok v)
  (h : FE J Ok b N (ρ.put o.dst v) (.inRegion ops rest :: k) w1) : FE J Ok b N ρ (.inRegion ops (i :: rest) :: k) w :=
 FE.ask U ho hw hk hd hv (fun e he => by simp only [execOp, hop, he x _ hx]) hr h
theorem FE.ia {x y : Operand} {t : TypeId} {u u' v : Value} {w1 : World} (U : Clos P C J Ok Vok) (ho : ops[i]? = some o) (hop : o.op = .indexAddr t x y) (hw : wantB ops ρ o = some true) (hk : b.kind ≠ .early) (hd : o.dst.all (· < N) = true) (hx : ev ρ x = some u) (hy : ev ρ y = some u') (hr : (Instr.indexAt t u u').run P w = .ok v w1) (hv : Vok v)
  (h : FE J Ok b N (ρ.put o.dst v) (.inRegion ops rest :: k) w1) : FE J Ok b N ρ (.inRegion ops (i :: rest) :: k) w :=
 FE.ask U ho hw hk hd hv (fun e he => by simp only [execOp, hop, he x _ hx, he y _ hy]) hr h
theorem FE.rd {x : Operand} {t : TypeId} {u v : Value} {w1 : World} (U : Clos P C J Ok Vok) (ho : ops[i]? = some o) (hop : o.op = .load t x) (hw : wantB ops ρ o = some true) (hk : b.kind ≠ .early) (hd : o.dst.all (· < N) = true) (hx : ev ρ x = some u) (hr : (Instr.loadAt t u).run P w = .ok v w1) (hv : Vok v)
  (h : FE J Ok b N (ρ.put o.dst v) (.inRegion ops rest :: k) w1) : FE J Ok b N ρ (.inRegion ops (i :: rest) :: k) w :=
 FE.ask U ho hw hk hd hv (fun e he => by simp only [execOp, hop, he x _ hx]) hr h
theorem FE.mk {x y : Operand} {t : TypeId} {u u' v : Value} {w1 : World} (U : Clos P C J Ok Vok) (ho : ops[i]? = some o) (hop : o.op = .makeSlice t x y) (hw : wantB ops ρ o = some true) (hk : b.kind ≠ .early) (hd : o.dst.all (· < N) = true) (hx : ev ρ x = some u) (hy : ev ρ y = some u') (hr : (Instr.makeSlice t u u').run P w = .ok v w1) (hv : Vok v)
  (h : FE J Ok b N (ρ.put o.dst v) (.inRegion ops rest :: k) w1) : FE J Ok b N ρ (.inRegion ops (i :: rest) :: k) w :=
 FE.ask U ho hw hk hd hv (fun e he => by simp only [execOp, hop, he x _ hx, he y _ hy]) hr h
theorem FE.wr {x y : Operand} {t : TypeId} {u u' : Value} {w1 : World} (U : Clos P C J Ok Vok) (ho : ops[i]? = some o) (hop : o.op = .store t x y) (hw : wantB ops ρ o = some true) (hk : b.kind ≠ .early) (hd : o.dst.all (· < N) = true) (hx : ev ρ x = some u) (hy : ev ρ y = some u') (hr : (Instr.storeAt t u u').run P w = .ok () w1) (hv : Vok undef)
  (h : FE J Ok b N (ρ.put o.dst undef) (.inRegion ops rest :: k) w1) : FE J Ok b N ρ (.inRegion ops (i :: rest) :: k) w :=
 FE.none U ho hw hk hd hv (fun e he => by simp only [execOp, hop, he x _ hx, he y _ hy]; simp [hr, Result.andThen]) h
theorem FE.al {t : TypeId} {v : Value} {w1 : World} (U : Clos P C J Ok Vok) (ho : ops[i]? = some o) (hop : o.op = .alloc t) (hw : wantB ops ρ o = some true) (hk : b.kind ≠ .early) (hd : o.dst.all (· < N) = true) (hr : (Instr.alloc t true (.tuple #[])).run P w = .ok v w1) (hv : Vok v)
  (h : FE J Ok b N (ρ.put o.dst v) (.inRegion ops rest :: k) w1) : FE J Ok b N ρ (.inRegion ops (i :: rest) :: k) w :=
 FE.ask U ho hw hk hd hv (fun e he => by simp only [execOp, hop]) hr h
end
theorem ho45 (t g : Nat) : ¬ hoB 45 t = some g := by
 unfold hoB
 simp
def LT (Fin Goal : Cfg → Prop) (c : Cfg) : Prop := Tr Th.prog Fin c → ∃ c2, LReach Th.prog Fin c c2 ∧ Goal c2
section
variable {Fin Goal : Cfg → Prop} (hf : ∀ c, Fin c → c.cs = [])
theorem LT.goal {c : Cfg} (h : Goal c) : LT Fin Goal c := fun _ => ⟨c, .refl, h⟩
include hf
theorem LT.step {c : Cfg} (hcs : c.cs ≠ []) (h : ∀ g' w' es, stepG Th.prog true c.g c.w = .go g' w' es → (g'.frame.mode = .run ∨ g'.frame.mode = .returning) → ∃ c1 : Cfg, g' = c1.g ∧ w' = c1.w ∧ LT Fin Goal c1) : LT Fin Goal c := by
 intro hT
 cases hT with
 | fin hfin => exact absurd (hf c hfin) hcs
 | step next hn hs hT =>
  obtain ⟨es, e, hm⟩ := hs c.w.tape
  obtain ⟨c1, e1, e2, k⟩ := h _ _ _ (show stepG Th.prog true c.g c.w = _ from e) hm
  have e3 : next c.w.tape = c1 := by
   obtain ⟨x1, x2⟩ := g_inj e1
   generalize next c.w.tape = y at x1 x2 e2
   cases y; cases c1; simp_all
  obtain ⟨c2, r, g⟩ := k (e3 ▸ hT c.w.tape)
  exact ⟨c2, .head hn (hs c.w.tape) (e3 ▸ r), g⟩
variable {b : Frame} {a : Act} {k : List Item} {f0 : Frame} {cs : List Frame} {w : World}
theorem LT.go {b0 b1 : Frame} {w1 : World} {es : Array Event} (h : stepG Th.prog true (G b0 (f0 :: cs ++ [c0])) w = .go (G b1 (f0 :: cs ++ [c0])) w1 es) (kk : LT Fin Goal ⟨b1, f0 :: cs, w1⟩) : LT Fin Goal ⟨b0, f0 :: cs, w⟩ :=
 LT.step hf (by simp) fun g' w' es' e _ => by
  have e' : stepG Th.prog true (G b0 (f0 :: cs ++ [c0])) w = .go g' w' es' := e
  rw [h] at e'
  injection e' with e1 e2
  exact ⟨⟨b1, f0 :: cs, w1⟩, e1.symm, e2.symm, kk⟩
variable {ops : Array Oper} {i : Nat} {rest : List Nat} {o : Oper}
theorem LT.val {v : Value} {w1 : World} (ho : ops[i]? = some o) (hw : Region.wanted o (yielded ops a.tmps) = true) (hk : b.kind ≠ .early)
  (hr : (execOp a.eval o).run Th.prog w = .ok (.value v) w1) (h : LT Fin Goal ⟨b.at (a.put o.dst v) (.inRegion ops rest :: k), f0 :: cs, w1⟩) : LT Fin Goal ⟨b.at a (.inRegion ops (i :: rest) :: k), f0 :: cs, w⟩ := LT.go hf (stepG_value ho hw hk hr) h
variable [Zone]
theorem LT.op {A : Nat → Prop} (ho : ops[i]? = some o) (hw : Region.wanted o (yielded ops a.tmps) = true) (hk : b.kind = .normal) (hob : Li.opB 45 o = true) (hA : Li.TmOk A 45 a.tmps) (hrel : Rel A w w)
  (h : ∀ nx w1, (execOp a.eval o).run Th.prog w = .ok nx w1 → ∃ v, nx = .value v ∧ LT Fin Goal ⟨b.at (a.put o.dst v) (.inRegion ops rest :: k), f0 :: cs, w1⟩) : LT Fin Goal ⟨b.at a (.inRegion ops (i :: rest) :: k), f0 :: cs, w⟩ := by
 cases hr : (execOp a.eval o).run Th.prog w with
 | ok nx w1 =>
  obtain ⟨v, rfl, kk⟩ := h nx w1 hr
  exact LT.val hf ho hw (by rw [hk]; simp) hr kk
 | halt hh w2 =>
  refine LT.step hf (by simp) fun g' w' es' e hm => ?_
  exfalso
  have hl : Lock Li.P Li.F true (Li.Done 45 o) A (execOp a.eval o) := by
   have := op_lock (A := A) Li_good (fr := b.at a (.inRegion ops (i :: rest) :: k)) hob hA (fun t g v h1 _ => absurd h1 (ho45 t g))
   rwa [Frame.eval_at'] at this
  have hP : ({ Li.P with funcs := Li.F } : Program) = Th.prog := by rw [Li_P, Li_F]
  have hrun : (execOp a.eval o).runT { Li.P with funcs := Li.F } w #[] = (.halt hh w2, ((execOp a.eval o).runT Th.prog w #[]).2) := by
   rw [hP]
   have := Sem.runT_fst Th.prog (execOp a.eval o) w #[]
   rw [hr] at this
   exact Prod.ext this rfl
  have hmild := halts hl w w #[] hh w2 _ hrel hrun
  have e' : stepG Th.prog true (G (b.at a (.inRegion ops (i :: rest) :: k)) (f0 :: cs ++ [c0])) w = .go g' w' es' := e
  rw [stepG_oper ho hw] at e'
  rw [hP] at hrun
  rcases apply_halt (P := Th.prog) (C := f0 :: cs ++ [c0]) (fr := b.at a (.inRegion ops (i :: rest) :: k)) hk rfl hmild hrun with ⟨o', w3, es3, h3⟩ | ⟨v, w3, es3, h3⟩
  ·rw [h3] at e'; cases e'
  ·rw [h3] at e'
   injection e' with e1 e2
   rw [← e1] at hm
   change (Frame.raise _ _).mode = _ ∨ _ at hm
   unfold Frame.raise at hm
   revert hm
   split <;> simp [mkG]
end
theorem lt_any {Fin Goal : Cfg → Prop} (hf : ∀ c, Fin c → c.cs = []) {f0 : Frame} {cs : List Frame} : Clos Th.prog (f0 :: cs ++ [c0]) (fun f w => LT Fin Goal ⟨f, f0 :: cs, w⟩) (fun _ => True) (fun _ => True) :=
 ⟨fun f f1 w w1 es h k => LT.go hf h k, fun _ _ _ _ _ => trivial⟩
section
variable [Zone]
theorem lt_clos {Fin Goal : Cfg → Prop} (hf : ∀ c, Fin c → c.cs = []) {A : Nat → Prop} {f0 : Frame} {cs : List Frame} : Clos Th.prog (f0 :: cs ++ [c0]) (fun f w => LT Fin Goal ⟨f, f0 :: cs, w⟩) (Li.TmOk A 45) (OkV A) :=
 ⟨fun f f1 w w1 es h k => LT.go hf h k, fun T d v hO hv => by
   cases d with
   | none => exact hO
   | some d =>
    intro t x hx
    have hx : (T.setIfInBounds d v)[t]? = some x := hx
    by_cases hdt : d = t
    ·subst hdt
     by_cases hlt : d < T.size
     ·rw [Array.getElem?_setIfInBounds_self_of_lt hlt] at hx
      cases hx
      exact .inl hv
     ·rw [Array.getElem?_eq_none (by simpa using hlt)] at hx; cases hx
    ·rw [Array.getElem?_setIfInBounds_ne hdt] at hx
     exact hO t x hx⟩
theorem tm_put {A : Nat → Prop} {T : Array Value} {d : Option Tmp} {v : Value} (hO : Li.TmOk A 45 T) (hv : OkV A v ∨ ((∀ x, d = some x → diB 45 x = true) ∧ ZV v)) : Li.TmOk A 45 (Act.put ⟨T, []⟩ d v).tmps := by
 cases d with
 | none => exact hO
 | some d =>
  intro t x hx
  have hx : (T.setIfInBounds d v)[t]? = some x := hx
  by_cases hdt : d = t
  ·subst hdt
   by_cases hlt : d < T.size
   ·rw [Array.getElem?_setIfInBounds_self_of_lt hlt] at hx
    cases hx
    exact hv.imp id fun h => ⟨h.1 d rfl, h.2⟩
   ·rw [Array.getElem?_eq_none (by simpa using hlt)] at hx; cases hx
  ·rw [Array.getElem?_setIfInBounds_ne hdt] at hx
   exact hO t x hx
variable {Fin Goal : Cfg → Prop} (hf : ∀ c, Fin c → c.cs = []) {A : Nat → Prop} {f0 : Frame} {cs : List Frame} {b : Frame} {N : Nat} {ρ : Rho} {k : List Item} {w : World} {ops : Array Oper} {i : Nat} {rest : List Nat} {o : Oper}
include hf
theorem LE.op (ho : ops[i]? = some o) (hw : wantB ops ρ o = some true) (hk : b.kind = .normal) (hd : o.dst.all (· < N) = true) (hob : Li.opB 45 o = true) (hrel : Rel A w w)
  (h : ∀ e : Operand → Value, (∀ x u, ev ρ x = some u → e x = u) → (∀ t, OkW A (e (.tmp t)) ∧ (diB 45 t = false → OkV A (e (.tmp t)))) → ∀ nx w1, (execOp e o).run Th.prog w = .ok nx w1 → ∃ v, nx = .value v ∧ (OkV A v ∨ ((∀ x, o.dst = some x → diB 45 x = true) ∧ ZV v)) ∧ FE (fun f w => LT Fin Goal ⟨f, f0 :: cs, w⟩) (Li.TmOk A 45) b N (ρ.put o.dst v) (.inRegion ops rest :: k) w1) :
  FE (fun f w => LT Fin Goal ⟨f, f0 :: cs, w⟩) (Li.TmOk A 45) b N ρ (.inRegion ops (i :: rest) :: k) w := fun T hT hO hl => by
 refine LT.op hf ho (hl.want hw) hk hob hO hrel fun nx w1 e => ?_
 obtain ⟨v, rfl, hv, kk⟩ := h _ (fun x u e => hl.ev e) (fun t => ⟨Plan.TmOk.any (fr := b.at ⟨T, []⟩ []) hO t, fun h0 => Plan.TmOk.clean (L := Li) (fr := b.at ⟨T, []⟩ []) hO (x := .tmp t) (by show (!diB 45 t) = true; rw [h0]; rfl)⟩) nx w1 e
 refine ⟨v, rfl, ?_⟩
 rw [put_act]
 exact kk _ (by rw [put_size, hT]) (tm_put hO hv) (hl.put (by rw [hT]; exact hd))
end
end Go.Proofs.Ytnikfjfcbpeieaa.Hk
end
section
namespace Go.Proofs.Ytnikfjfcbpeieaa.Hk
open Go Go.Conc Go.RowKit Go.Proofs.Ytnikfjfcbpeieaa.Lk
open Go.ConcR.Gen
set_option linter.unusedVariables false
set_option linter.unusedSimpArgs false
theorem pickB (t u : Bool) : (if t then Value.bool u else Value.bool false) = .bool (t && u) := by cases t <;> rfl
theorem conv35q (x : Int) (w : World) : (convert 3 5 (.int .i64 x)).run Th.prog w = .ok (.int .u8 (IntKind.u8.wrap x)) w := by go_simp
theorem conv578q (x : Int) (w : World) : (convert 5 78 (.int .u8 x)).run Th.prog w = .ok (.int .u32 (IntKind.u32.wrap x)) w := by go_simp
theorem conv783q (x : Int) (w : World) : (convert 78 3 (.int .u32 x)).run Th.prog w = .ok (.int .i64 (IntKind.i64.wrap x)) w := by go_simp
theorem ix57q {ad : Addr} {l cap : Nat} {z : Int} (h0 : 0 ≤ z) (h1 : z < l) (w : World) : (Instr.indexAt 57 (.slice (some ad) l cap) (.int .i64 z)).run Th.prog w = .ok (.pointer (some (ad.add z.toNat))) w := by
 have : ¬ ((l : Int) ≤ z) := by omega
 go_simp
theorem loadq (w : World) {ad : Addr} {u : Value} (hc : w.cell? ad = some u) : (Instr.loadAt 3 (.pointer (some ad))).run Th.prog w = .ok u w := by go_simp
theorem storeq (w : World) {ad : Addr} {z : Int} {u : Value} (hc : w.cell? ad = some u) (hz : w.frozen? ad = false) : (Instr.storeAt 3 (.pointer (some ad)) (.int .i64 z)).run Th.prog w = .ok () (w.setCell ad (.int .i64 z)) := by go_simp
theorem allocq (w : World) : (Instr.alloc 3 true (.tuple #[])).run Th.prog w = .ok (.pointer (some ⟨w.heap.size, 0, none⟩)) (w.alloc (.cells #[.int .i64 0] 3)) := by go_simp
theorem mkq' {n : Nat} (hn : (n : Int) = 1 ∨ (n : Int) = 2 ∨ (n : Int) = 4 ∨ (n : Int) = 8 ∨ (n : Int) = 16) (w : World) : (Instr.makeSlice 57 (.int .i64 n) (.int .i64 n)).run Th.prog w = .ok (.slice (some ⟨w.heap.size, 0, none⟩) n n) (w.alloc (alO (List.replicate n 0))) ∧ True := by
 have hn' : n = 1 ∨ n = 2 ∨ n = 4 ∨ n = 8 ∨ n = 16 := by omega
 rcases hn' with rfl | rfl | rfl | rfl | rfl <;> exact ⟨by kernel_rfl, trivial⟩
theorem mkq {n : Nat} (hn : (n : Int) = 1 ∨ (n : Int) = 2 ∨ (n : Int) = 4 ∨ (n : Int) = 8 ∨ (n : Int) = 16) (w : World) : (Instr.makeSlice 57 (.int .i64 n) (.int .i64 n)).run Th.prog w = .ok (.slice (some ⟨w.heap.size, 0, none⟩) n n) (w.alloc (alO (List.replicate n 0))) := (mkq' hn w).1
theorem lenq (A : Option Addr) (n cap : Nat) (w : World) : (Builtin.len_ #[57] 3 #[.slice A n cap]).run Th.prog w = .ok (.int .i64 n) w := by go_simp
theorem e57q : Th.prog.underlying 57 = some (.slice (Th.prog.elem 57)) := by kernel_rfl
theorem e57q' : Th.prog.elem 57 = 3 := by kernel_rfl
theorem cutq {A : Option Addr} {n cap k : Nat} (h : k ≤ cap) (w : World) : (Instr.sliceAt 57 (.slice A n cap) none (some (.int .i64 k)) none).run Th.prog w = .ok (sliced A 0 k cap 1) w := by
 rw [run_sliceAt_slice (h := e57q), run_slice_h (ht := e57q) (h0 := by omega) (h2 := by omega), e57q', Th.sizeOf3]
 simp [Result.andThen]
theorem add1q {p : Nat} (h : p < 1000000000) : binOp .add 3 (.int .i64 (p : Nat)) (.int .i64 1) = pure (.int .i64 ((p + 1 : Nat) : Int)) := by
 have e : binOp .add 3 (.int .i64 (p : Nat)) (.int .i64 1) = pure (.int .i64 (IntKind.i64.wrap ((p : Int) + 1))) := rfl
 rw [e, show IntKind.i64.wrap ((p : Int) + 1) = ((p + 1 : Nat) : Int) by rw [IntKind.wrap_i64]; omega]
theorem cnt_cell {w : World} {B b : Nat} {c : List Int} (h : w.heap[B]? = some (alO c)) (hb : b < c.length) : w.cell? ⟨B, b, none⟩ = some (.int .i64 (c.getD b 0)) := by
 unfold alO at h
 simp [World.cell?, h, hb, List.getD]
theorem cnt_thaw {w : World} {B b : Nat} {c : List Int} (h : w.heap[B]? = some (alO c)) : w.frozen? ⟨B, b, none⟩ = false := by
 unfold alO at h
 simp [World.frozen?, h]
theorem cnt_set {w : World} {B : Nat} {c : List Int} (h : w.heap[B]? = some (alO c)) (b : Nat) (z : Int) : (w.setCell ⟨B, b, none⟩ (.int .i64 z)).heap[B]? = some (alO (c.set b z)) := by
 unfold alO at h ⊢
 obtain ⟨hlt, he⟩ := Array.getElem?_eq_some_iff.1 h
 unfold World.setCell
 simp [hlt, Array.getElem_modify, he]
theorem numB_nat {z : Int} (h : numB z = true) : ∃ n : Nat, z = n ∧ ((n : Int) = 1 ∨ (n : Int) = 2 ∨ (n : Int) = 4 ∨ (n : Int) = 8 ∨ (n : Int) = 16) := by
 have h' := h
 simp only [numB, Bool.and_eq_true, decide_eq_true_eq] at h
 obtain ⟨⟨h1, h2⟩, h3⟩ := h
 refine ⟨z.toNat, by omega, ?_⟩
 have : z = 1 ∨ z = 2 ∨ z = 3 ∨ z = 4 ∨ z = 5 ∨ z = 6 ∨ z = 7 ∨ z = 8 ∨ z = 9 ∨ z = 10 ∨ z = 11 ∨ z = 12 ∨ z = 13 ∨ z = 14 ∨ z = 15 ∨ z = 16 := by omega
 rcases this with rfl | rfl | rfl | rfl | rfl | rfl | rfl | rfl | rfl | rfl | rfl | rfl | rfl | rfl | rfl | rfl <;> first | omega | (revert h'; decide)
theorem toNat_ltq {b : Int} {n c : Nat} (h0 : 0 ≤ b) (h1 : b < n) (hc : c = n) : b.toNat < c := by omega
theorem addB (B i : Nat) : Addr.add ⟨B, 0, none⟩ i = ⟨B, i, none⟩ := by
 unfold Addr.add
 by_cases h : i = 0 <;> simp [h]
noncomputable def d45 (k : Nat) : Code := k.rec Th.c45 fun _ c => cR c
noncomputable def X1 : Code := cLp (cB (cLl (d45 2)))
noncomputable def X2 : Code := cLp (cB (cLl (d45 7)))
structure HSl (W : World) (A : Option Addr) (m cap : Nat) (l : List Int) : Prop where
 nil : 0 < m → ∃ ad, A = some ad
 el : ∀ q ad, q < m → A = some ad → W.cell? (ad.add q) = some (.int .i64 (l.getD q 0))
 len : l.length = m
 cap : m ≤ cap
 small : m ≤ 1000000000
structure Out45 (W : World) (m : Nat) (l : List Int) (z : Int) (v1 v2 : Value) (w' : World) : Prop where
 below : Below W.heap.size W w'
 res : (numB z = false ∧ v1 = .slice none 0 0 ∧ v2 = .int .i64 2 ∧ w'.heap.size = W.heap.size + 1) ∨
  (numB z = true ∧ l.all rightB = false ∧ v1 = .slice none 0 0 ∧ v2 = .int .i64 1 ∧ w'.heap.size = W.heap.size + 1) ∨
  (∃ n : Nat, z = n ∧ numB z = true ∧ l.all rightB = true ∧ v1 = .slice (some ⟨W.heap.size + 1, 0, none⟩) n n ∧ v2 = .int .i64 0 ∧ w'.heap.size = W.heap.size + 8 + m ∧
    w'.heap[W.heap.size + 1]? = some (alO ((bkl n l).foldl inc (List.replicate n 0))))
def back45 (T : Array Value) : Frame := { (base 45).at ⟨T, []⟩ [.code .ret] with mode := .returning }
section
variable {C : List Frame} {J : Frame → World → Prop} {Ok : Array Value → Prop} {Vok : Value → Prop} {W : World} {A : Option Addr} {m cap : Nat} {l : List Int}
theorem HSl.lt (h : HSl W A m cap l) {q : Nat} {ad : Addr} (hq : q < m) (e : A = some ad) : ad.block < W.heap.size := by
 have := h.el q ad hq e
 unfold World.cell? at this
 cases ho : W.heap[(ad.add q).block]? with
 | none => rw [ho] at this; cases this
 | some o => rw [add_block] at ho; exact (Array.getElem?_eq_some_iff.1 ho).1
set_option maxRecDepth 100000 in
set_option maxHeartbeats 8000000 in
theorem loopB (U : Clos Th.prog C J Ok (fun _ => True)) {n : Nat} (hn : (n : Int) = 1 ∨ (n : Int) = 2 ∨ (n : Int) = 4 ∨ (n : Int) = 8 ∨ (n : Int) = 16) (h : HSl W A m cap l)
  (hT : ∀ (T : Array Value) (w' : World), T[2]? = some (.slice (some ⟨W.heap.size + 1, 0, none⟩) n n) → T[3]? = some (.int .i64 0) → Below W.heap.size W w' → w'.heap.size = W.heap.size + 8 + m →
    w'.heap[W.heap.size + 1]? = some (alO ((bkl n l).foldl inc (List.replicate n 0))) → J (back45 T) w') :
  ∀ (l' : List Int) (p : Nat), l.drop p = l' → p ≤ m → ∀ (c : List Int) (w : World), Below W.heap.size W w → w.heap.size = W.heap.size + 8 + p → w.heap[W.heap.size + 1]? = some (alO c) → c.length = n → (bkl n l').foldl inc c = (bkl n l).foldl inc (List.replicate n 0) →
  FE J Ok (base 45) 36 [(0, .slice A m cap), (2, .slice (some ⟨W.heap.size + 1, 0, none⟩) n n), (3, .int .i64 0), (4, .int .i64 m), (8, .int .i64 (p : Nat)), (18, .int .i64 (IntKind.i64.wrap ((n : Int) - 1)))] [.code X2, .inLoop X2, .inBlock 1, .code .ret] w := by
 intro l'
 induction l' with
 | nil =>
  intro p hp hpm c w hb hsz hal hc hf
  obtain rfl : p = m := by
   have := congrArg List.length hp
   simp only [List.length_drop, List.length_nil, h.len] at this
   omega
  simp only [X2, d45, Th.c45, cR, cLl, cB, cLp]
  have hlt : ¬ ((p : Nat) : Int) < ((p : Nat) : Int) := by omega
  repeat (first
   | refine FE.bin (op := .lss) U rfl rfl rfl (by k_ne) rfl rfl rfl (ltF hlt) (by first | exact trivial | exact .int _ _ | exact .bool _) ?_
   | refine FE.regionEnd U ?_
   | refine FE.seq U ?_
   | refine FE.region _ U rfl ?_
   | (refine FE.cond false U rfl ?_; simp only [if_true, if_false, Bool.false_eq_true, ↓reduceIte])
   | refine FE.exit U rfl ?_)
  refine FE.ret U fun T hT' hO hl => ?_
  exact hT T w (hl 2 _ rfl) (hl 3 _ rfl) hb hsz (by rw [hal]; exact congrArg (fun x => some (alO x)) hf)
 | cons y l' ih =>
  intro p hp hpm c w hb hsz hal hc hf
  have hpl : p < l.length := by
   have := congrArg List.length hp
   simp only [List.length_drop, List.length_cons] at this
   omega
  have hlm := h.len
  have hsm := h.small
  have hy : l.getD p 0 = y := by
   have := congrArg (fun x : List Int => x.getD 0 0) hp
   simpa [List.getD_eq_getElem?_getD] using this
  have hdr : l.drop (p + 1) = l' := by
   have := congrArg List.tail hp
   simpa [List.tail_drop] using this
  obtain ⟨ad, hA⟩ := h.nil (by omega)
  have hel := h.el p ad (by omega) hA
  rw [hy] at hel
  have hadl := h.lt (q := p) (by omega) hA
  have ih' := fun c w => ih (p + 1) hdr (by omega) c w
  clear ih
  subst hA
  have hlt : ((p : Nat) : Int) < ((m : Nat) : Int) := by omega
  have h0p : (0 : Int) ≤ ((p : Nat) : Int) := by omega
  have hb1 : Below W.heap.size W (w.alloc (.cells #[.int .i64 0] 3)) := hb.alloc (by omega) _
  have hal1 : (w.alloc (.cells #[.int .i64 0] 3)).heap[W.heap.size + 1]? = some (alO c) := by rw [heap_push_old _ _ (by omega)]; exact hal
  have hel1 : (w.alloc (.cells #[.int .i64 0] 3)).cell? (ad.add p) = some (.int .i64 y) := by
   rw [World.cell?_of_block (show (w.alloc (.cells #[.int .i64 0] 3)).heap[(ad.add p).block]? = W.heap[(ad.add p).block]? from hb1.block _ (by rw [add_block]; exact hadl))]
   exact hel
  have hsz1 : (w.alloc (.cells #[.int .i64 0] 3)).heap.size = W.heap.size + 8 + (p + 1) := by rw [heap_push_size, hsz]; omega
  obtain ⟨hk0, hk1⟩ := bkx_range (a := y) hn
  generalize hW1 : w.alloc (.cells #[.int .i64 0] 3) = w1 at *
  have hcb : (bkx y n).toNat < c.length := toNat_ltq hk0 hk1 hc
  simp only [X2, d45, Th.c45, cR, cLl, cB, cLp] at ih' ⊢
  repeat (first
   | refine FE.bin (op := .lss) U rfl rfl rfl (by k_ne) rfl rfl rfl (ltT hlt) (by first | exact trivial | exact .int _ _ | exact .bool _) ?_
   | refine FE.regionEnd U ?_
   | refine FE.seq U ?_
   | refine FE.region _ U rfl ?_
   | (refine FE.cond true U rfl ?_; simp only [if_true, if_false, Bool.false_eq_true, ↓reduceIte])
   | refine FE.skip U ?_)
  refine FE.al U rfl rfl rfl (by k_ne) rfl (allocq w) trivial ?_
  rw [hW1]
  refine FE.ia U rfl rfl rfl (by k_ne) rfl rfl rfl (ix57q h0p hlt w1) trivial ?_
  rw [Int.toNat_natCast]
  refine FE.rd U rfl rfl rfl (by k_ne) rfl rfl (loadq w1 hel1) trivial ?_
  refine FE.as U rfl rfl rfl (by k_ne) rfl rfl trivial ?_
  refine FE.to [(0, .slice (some ad) m cap), (2, .slice (some ⟨W.heap.size + 1, 0, none⟩) n n), (3, .int .i64 0), (4, .int .i64 m), (8, .int .i64 (p : Nat)), (12, .int .i64 y), (18, .int .i64 (IntKind.i64.wrap ((n : Int) - 1))), (23, .int .u32 (hsx y 0))] ⟨rfl, rfl, rfl, rfl, rfl, rfl, rfl, rfl, trivial⟩ ?_
  refine FE.bin U rfl rfl rfl (by k_ne) rfl rfl rfl rfl trivial ?_
  refine FE.cv (v := .int .u8 (bt y 0)) U rfl rfl rfl (by k_ne) rfl rfl (conv35q _ w1) trivial ?_
  refine FE.cv U rfl rfl rfl (by k_ne) rfl rfl (conv578q (bt y 0) w1) trivial ?_
  refine FE.bin U rfl rfl rfl (by k_ne) rfl rfl rfl rfl trivial ?_
  refine FE.bin U rfl rfl rfl (by k_ne) rfl rfl rfl rfl trivial ?_
  refine FE.to [(0, .slice (some ad) m cap), (2, .slice (some ⟨W.heap.size + 1, 0, none⟩) n n), (3, .int .i64 0), (4, .int .i64 m), (8, .int .i64 (p : Nat)), (12, .int .i64 y), (18, .int .i64 (IntKind.i64.wrap ((n : Int) - 1))), (23, .int .u32 (hsx y 1))] ⟨rfl, rfl, rfl, rfl, rfl, rfl, rfl, rfl, trivial⟩ ?_
  refine FE.bin U rfl rfl rfl (by k_ne) rfl rfl rfl rfl trivial ?_
  refine FE.cv (v := .int .u8 (bt y 1)) U rfl rfl rfl (by k_ne) rfl rfl (conv35q _ w1) trivial ?_
  refine FE.cv U rfl rfl rfl (by k_ne) rfl rfl (conv578q (bt y 1) w1) trivial ?_
  refine FE.bin U rfl rfl rfl (by k_ne) rfl rfl rfl rfl trivial ?_
  refine FE.bin U rfl rfl rfl (by k_ne) rfl rfl rfl rfl trivial ?_
  refine FE.to [(0, .slice (some ad) m cap), (2, .slice (some ⟨W.heap.size + 1, 0, none⟩) n n), (3, .int .i64 0), (4, .int .i64 m), (8, .int .i64 (p : Nat)), (12, .int .i64 y), (18, .int .i64 (IntKind.i64.wrap ((n : Int) - 1))), (23, .int .u32 (hsx y 2))] ⟨rfl, rfl, rfl, rfl, rfl, rfl, rfl, rfl, trivial⟩ ?_
  refine FE.bin U rfl rfl rfl (by k_ne) rfl rfl rfl rfl trivial ?_
  refine FE.cv (v := .int .u8 (bt y 2)) U rfl rfl rfl (by k_ne) rfl rfl (conv35q _ w1) trivial ?_
  refine FE.cv U rfl rfl rfl (by k_ne) rfl rfl (conv578q (bt y 2) w1) trivial ?_
  refine FE.bin U rfl rfl rfl (by k_ne) rfl rfl rfl rfl trivial ?_
  refine FE.bin U rfl rfl rfl (by k_ne) rfl rfl rfl rfl trivial ?_
  refine FE.to [(0, .slice (some ad) m cap), (2, .slice (some ⟨W.heap.size + 1, 0, none⟩) n n), (3, .int .i64 0), (4, .int .i64 m), (8, .int .i64 (p : Nat)), (12, .int .i64 y), (18, .int .i64 (IntKind.i64.wrap ((n : Int) - 1))), (23, .int .u32 (hsx y 3))] ⟨rfl, rfl, rfl, rfl, rfl, rfl, rfl, rfl, trivial⟩ ?_
  refine FE.bin U rfl rfl rfl (by k_ne) rfl rfl rfl rfl trivial ?_
  refine FE.cv (v := .int .u8 (bt y 3)) U rfl rfl rfl (by k_ne) rfl rfl (conv35q _ w1) trivial ?_
  refine FE.cv U rfl rfl rfl (by k_ne) rfl rfl (conv578q (bt y 3) w1) trivial ?_
  refine FE.bin U rfl rfl rfl (by k_ne) rfl rfl rfl rfl trivial ?_
  refine FE.bin U rfl rfl rfl (by k_ne) rfl rfl rfl rfl trivial ?_
  refine FE.to [(0, .slice (some ad) m cap), (2, .slice (some ⟨W.heap.size + 1, 0, none⟩) n n), (3, .int .i64 0), (4, .int .i64 m), (8, .int .i64 (p : Nat)), (12, .int .i64 y), (18, .int .i64 (IntKind.i64.wrap ((n : Int) - 1))), (23, .int .u32 (hsx y 4))] ⟨rfl, rfl, rfl, rfl, rfl, rfl, rfl, rfl, trivial⟩ ?_
  refine FE.bin U rfl rfl rfl (by k_ne) rfl rfl rfl rfl trivial ?_
  refine FE.cv (v := .int .u8 (bt y 4)) U rfl rfl rfl (by k_ne) rfl rfl (conv35q _ w1) trivial ?_
  refine FE.cv U rfl rfl rfl (by k_ne) rfl rfl (conv578q (bt y 4) w1) trivial ?_
  refine FE.bin U rfl rfl rfl (by k_ne) rfl rfl rfl rfl trivial ?_
  refine FE.bin U rfl rfl rfl (by k_ne) rfl rfl rfl rfl trivial ?_
  refine FE.to [(0, .slice (some ad) m cap), (2, .slice (some ⟨W.heap.size + 1, 0, none⟩) n n), (3, .int .i64 0), (4, .int .i64 m), (8, .int .i64 (p : Nat)), (12, .int .i64 y), (18, .int .i64 (IntKind.i64.wrap ((n : Int) - 1))), (23, .int .u32 (hsx y 5))] ⟨rfl, rfl, rfl, rfl, rfl, rfl, rfl, rfl, trivial⟩ ?_
  refine FE.bin U rfl rfl rfl (by k_ne) rfl rfl rfl rfl trivial ?_
  refine FE.cv (v := .int .u8 (bt y 5)) U rfl rfl rfl (by k_ne) rfl rfl (conv35q _ w1) trivial ?_
  refine FE.cv U rfl rfl rfl (by k_ne) rfl rfl (conv578q (bt y 5) w1) trivial ?_
  refine FE.bin U rfl rfl rfl (by k_ne) rfl rfl rfl rfl trivial ?_
  refine FE.bin U rfl rfl rfl (by k_ne) rfl rfl rfl rfl trivial ?_
  refine FE.to [(0, .slice (some ad) m cap), (2, .slice (some ⟨W.heap.size + 1, 0, none⟩) n n), (3, .int .i64 0), (4, .int .i64 m), (8, .int .i64 (p : Nat)), (12, .int .i64 y), (18, .int .i64 (IntKind.i64.wrap ((n : Int) - 1))), (23, .int .u32 (hsx y 6))] ⟨rfl, rfl, rfl, rfl, rfl, rfl, rfl, rfl, trivial⟩ ?_
  refine FE.cv (v := .int .i64 (sumx y)) U rfl rfl rfl (by k_ne) rfl rfl (conv783q (hsx y 6) w1) trivial ?_
  refine FE.bin (v := .int .i64 (bkx y n)) U rfl rfl rfl (by k_ne) rfl rfl rfl rfl trivial ?_
  refine FE.ia U rfl rfl rfl (by k_ne) rfl rfl rfl (ix57q hk0 hk1 w1) trivial ?_
  rw [addB]
  refine FE.rd U rfl rfl rfl (by k_ne) rfl rfl (loadq w1 (cnt_cell hal1 hcb)) trivial ?_
  refine FE.bin (v := .int .i64 (IntKind.i64.wrap (c.getD (bkx y n).toNat 0 + 1))) U rfl rfl rfl (by k_ne) rfl rfl rfl rfl trivial ?_
  refine FE.wr U rfl rfl rfl (by k_ne) rfl rfl rfl (storeq w1 (cnt_cell hal1 hcb) (cnt_thaw hal1)) trivial ?_
  refine FE.bin U rfl rfl rfl (by k_ne) rfl rfl rfl (add1q (p := p) (by omega)) trivial ?_
  refine FE.mv U rfl rfl rfl (by k_ne) rfl rfl trivial ?_
  refine FE.regionEnd U ?_
  refine FE.inLoop U ?_
  have BS := aside_setCell w1 ⟨W.heap.size + 1, (bkx y n).toNat, none⟩ (.int .i64 (IntKind.i64.wrap (c.getD (bkx y n).toNat 0 + 1)))
  exact FE.to [(0, .slice (some ad) m cap), (2, .slice (some ⟨W.heap.size + 1, 0, none⟩) n n), (3, .int .i64 0), (4, .int .i64 m), (8, .int .i64 ((p + 1 : Nat))), (18, .int .i64 (IntKind.i64.wrap ((n : Int) - 1)))] ⟨rfl, rfl, rfl, rfl, rfl, rfl, trivial⟩ (ih' (inc c (bkx y n)) _ ⟨BS.os.trans hb1.os, BS.tape.trans hb1.tape, BS.output.trans hb1.output, by rw [BS.size]; exact hb1.size, fun b hbl => (BS.block b (by show b ≠ W.heap.size + 1; omega)).trans (hb1.block b hbl)⟩ (by rw [BS.size]; exact hsz1) (cnt_set hal1 _ _) (by rw [inc_length]; exact hc) hf)
set_option maxRecDepth 100000 in
set_option maxHeartbeats 8000000 in
theorem tail45 (U : Clos Th.prog C J Ok (fun _ => True)) {z : Int} (h : HSl W A m cap l)
  (hT : ∀ (T : Array Value) (todo : List Item) (v1 v2 : Value) (w' : World), T[2]? = some v1 → T[3]? = some v2 → Out45 W m l z v1 v2 w' → J { (base 45).at ⟨T, []⟩ todo with mode := .returning } w') :
  FE J Ok (base 45) 36 [(0, .slice A m cap), (1, .int .i64 z), (2, .slice none 0 0), (3, .int .i64 0), (4, .int .i64 m), (6, .bool (decide (1 ≤ z))), (9, .bool (l.all rightB))] [.code (d45 3)] W := by
 have hloop := fun n hn hr => loopB (W := W) U (n := n) hn h hr
 have b1 : Below W.heap.size W (W.alloc (.cells #[.int .i64 0] 3)) := (Below.refl _ _).alloc (Nat.le_refl _) _
 have s1 : (W.alloc (.cells #[.int .i64 0] 3)).heap.size = W.heap.size + 1 := heap_push_size _ _
 simp only [X2, d45, Th.c45, cR, cLl, cB, cLp] at hloop ⊢
 refine FE.seq U ?_
 refine FE.region _ U rfl ?_
 refine FE.al U rfl rfl rfl (by k_ne) rfl (allocq W) trivial ?_
 generalize hW1 : W.alloc (.cells #[.int .i64 0] 3) = w1 at *
 repeat (first
  | refine FE.bin U rfl rfl rfl (by k_ne) rfl rfl rfl rfl (by first | exact trivial | exact .int _ _ | exact .bool _) ?_
  | refine FE.regionEnd U ?_
  | refine FE.seq U ?_
  | refine FE.pick U rfl rfl rfl (by k_ne) rfl rfl ⟨_, _, rfl, rfl, pickB _ _⟩ (by first | exact trivial | exact .int _ _ | exact .bool _) ?_)
 refine FE.to [(0, .slice A m cap), (1, .int .i64 z), (2, .slice none 0 0), (3, .int .i64 0), (4, .int .i64 m), (9, .bool (l.all rightB)), (18, .int .i64 (IntKind.i64.wrap (z - 1))), (22, .bool (numB z))] ⟨rfl, rfl, rfl, rfl, rfl, rfl, rfl, rfl, trivial⟩ ?_
 cases hnb : numB z
 ·repeat (first
   | refine FE.as U rfl rfl rfl (by k_ne) rfl rfl (by first | exact trivial | exact .int _ _ | exact .bool _) ?_
   | refine FE.regionEnd U ?_
   | refine FE.seq U ?_
   | refine FE.region _ U rfl ?_
   | (refine FE.cond false U rfl ?_; simp only [if_true, if_false, Bool.false_eq_true, ↓reduceIte]))
  refine FE.ret U fun T hT' hO hl => hT T _ _ _ _ (hl 2 _ rfl) (hl 3 _ rfl) ⟨b1, .inl ⟨hnb, rfl, rfl, s1⟩⟩
 ·obtain ⟨n, rfl, hn⟩ := numB_nat hnb
  cases hr : l.all rightB
  ·repeat (first
    | refine FE.as U rfl rfl rfl (by k_ne) rfl rfl (by first | exact trivial | exact .int _ _ | exact .bool _) ?_
    | refine FE.regionEnd U ?_
    | refine FE.seq U ?_
    | refine FE.region _ U rfl ?_
    | (refine FE.cond true U rfl ?_; simp only [if_true, if_false, Bool.false_eq_true, ↓reduceIte])
    | (refine FE.cond false U rfl ?_; simp only [if_true, if_false, Bool.false_eq_true, ↓reduceIte])
    | refine FE.skip U ?_)
   refine FE.ret U fun T hT' hO hl => hT T _ _ _ _ (hl 2 _ rfl) (hl 3 _ rfl) ⟨b1, .inr (.inl ⟨hnb, hr, rfl, rfl, s1⟩)⟩
  ·repeat (first
    | refine FE.seq U ?_
    | refine FE.region _ U rfl ?_
    | (refine FE.cond true U rfl ?_; simp only [if_true, if_false, Bool.false_eq_true, ↓reduceIte])
    | refine FE.skip U ?_)
   refine FE.mk U rfl rfl rfl (by k_ne) rfl rfl rfl (mkq hn w1) trivial ?_
   have b2 := b1.alloc (by omega) (alO (List.replicate n 0))
   have s2 : (w1.alloc (alO (List.replicate n 0))).heap.size = W.heap.size + 2 := by rw [heap_push_size, s1]
   have a2 : (w1.alloc (alO (List.replicate n 0))).heap[W.heap.size + 1]? = some (alO (List.replicate n 0)) := by rw [← s1]; exact Array.getElem?_push_size
   rw [s1]
   generalize w1.alloc (alO (List.replicate n 0)) = w2 at *
   refine FE.al U rfl rfl rfl (by k_ne) rfl (allocq w2) trivial ?_
   have b3 := b2.alloc (by omega) (.cells #[.int .i64 0] 3)
   have s3 : (w2.alloc (.cells #[.int .i64 0] 3)).heap.size = W.heap.size + 3 := by rw [heap_push_size, s2]
   have a3 : (w2.alloc (.cells #[.int .i64 0] 3)).heap[W.heap.size + 1]? = some (alO (List.replicate n 0)) := by rw [heap_push_old _ _ (by omega)]; exact a2
   generalize w2.alloc (.cells #[.int .i64 0] 3) = w3 at *
   refine FE.al U rfl rfl rfl (by k_ne) rfl (allocq w3) trivial ?_
   have b4 := b3.alloc (by omega) (.cells #[.int .i64 0] 3)
   have s4 : (w3.alloc (.cells #[.int .i64 0] 3)).heap.size = W.heap.size + 4 := by rw [heap_push_size, s3]
   have a4 : (w3.alloc (.cells #[.int .i64 0] 3)).heap[W.heap.size + 1]? = some (alO (List.replicate n 0)) := by rw [heap_push_old _ _ (by omega)]; exact a3
   generalize w3.alloc (.cells #[.int .i64 0] 3) = w4 at *
   refine FE.al U rfl rfl rfl (by k_ne) rfl (allocq w4) trivial ?_
   have b5 := b4.alloc (by omega) (.cells #[.int .i64 0] 3)
   have s5 : (w4.alloc (.cells #[.int .i64 0] 3)).heap.size = W.heap.size + 5 := by rw [heap_push_size, s4]
   have a5 : (w4.alloc (.cells #[.int .i64 0] 3)).heap[W.heap.size + 1]? = some (alO (List.replicate n 0)) := by rw [heap_push_old _ _ (by omega)]; exact a4
   generalize w4.alloc (.cells #[.int .i64 0] 3) = w5 at *
   refine FE.al U rfl rfl rfl (by k_ne) rfl (allocq w5) trivial ?_
   have b6 := b5.alloc (by omega) (.cells #[.int .i64 0] 3)
   have s6 : (w5.alloc (.cells #[.int .i64 0] 3)).heap.size = W.heap.size + 6 := by rw [heap_push_size, s5]
   have a6 : (w5.alloc (.cells #[.int .i64 0] 3)).heap[W.heap.size + 1]? = some (alO (List.replicate n 0)) := by rw [heap_push_old _ _ (by omega)]; exact a5
   generalize w5.alloc (.cells #[.int .i64 0] 3) = w6 at *
   refine FE.al U rfl rfl rfl (by k_ne) rfl (allocq w6) trivial ?_
   have b7 := b6.alloc (by omega) (.cells #[.int .i64 0] 3)
   have s7 : (w6.alloc (.cells #[.int .i64 0] 3)).heap.size = W.heap.size + 7 := by rw [heap_push_size, s6]
   have a7 : (w6.alloc (.cells #[.int .i64 0] 3)).heap[W.heap.size + 1]? = some (alO (List.replicate n 0)) := by rw [heap_push_old _ _ (by omega)]; exact a6
   generalize w6.alloc (.cells #[.int .i64 0] 3) = w7 at *
   refine FE.al U rfl rfl rfl (by k_ne) rfl (allocq w7) trivial ?_
   have b8 := b7.alloc (by omega) (.cells #[.int .i64 0] 3)
   have s8 : (w7.alloc (.cells #[.int .i64 0] 3)).heap.size = W.heap.size + 8 := by rw [heap_push_size, s7]
   have a8 : (w7.alloc (.cells #[.int .i64 0] 3)).heap[W.heap.size + 1]? = some (alO (List.replicate n 0)) := by rw [heap_push_old _ _ (by omega)]; exact a7
   generalize w7.alloc (.cells #[.int .i64 0] 3) = w8 at *
   repeat (first
    | refine FE.mv U rfl rfl rfl (by k_ne) rfl rfl (by first | exact trivial | exact .int _ _ | exact .bool _) ?_
    | refine FE.regionEnd U ?_
    | refine FE.seq U ?_
    | refine FE.block U ?_)
   refine FE.loop U ?_
   exact FE.to [(0, .slice A m cap), (2, .slice (some ⟨W.heap.size + 1, 0, none⟩) n n), (3, .int .i64 0), (4, .int .i64 m), (8, .int .i64 ((0 : Nat))), (18, .int .i64 (IntKind.i64.wrap ((n : Int) - 1)))] ⟨rfl, rfl, rfl, rfl, rfl, rfl, trivial⟩ (hloop n hn (fun T w' t2 t3 g1 g2 g3 => hT T _ _ _ _ t2 t3 ⟨g1, .inr (.inr ⟨n, rfl, hnb, hr, rfl, rfl, g2, g3⟩)⟩) l 0 rfl (by omega) (List.replicate n 0) w8 b8 s8 a8 (by simp) rfl)
end
end Go.Proofs.Ytnikfjfcbpeieaa.Hk
end
section
namespace Go.Proofs.Ytnikfjfcbpeieaa.Hk
open Go Go.Conc Go.RowKit Go.Proofs.Ytnikfjfcbpeieaa.Lk
open Go.ConcR.Gen
set_option linter.unusedVariables false
set_option linter.unusedSimpArgs false
section
variable {C : List Frame} {J : Frame → World → Prop} {Ok : Array Value → Prop} {Vok : Value → Prop} {W : World} {A : Option Addr} {m cap : Nat} {l : List Int} {z : Int}
theorem FE.weak {b : Frame} {N : Nat} {ρ : Rho} {k : List Item} {w : World} (h : FE J (fun _ => True) b N ρ k w) : FE J Ok b N ρ k w := fun T hT _ hl => h T hT trivial hl
set_option maxRecDepth 100000 in
set_option maxHeartbeats 8000000 in
theorem loopA (U : Clos Th.prog C J Ok (fun _ => True)) (h : HSl W A m cap l) (hend : FE J Ok (base 45) 36 [(0, .slice A m cap), (1, .int .i64 z), (2, .slice none 0 0), (3, .int .i64 0), (4, .int .i64 m), (6, .bool (decide (1 ≤ z))), (9, .bool (l.all rightB))] [.code (d45 3)] W) :
  ∀ (l' : List Int) (p : Nat), l.drop p = l' → p ≤ m → ∀ f : Bool, (f && l'.all rightB) = l.all rightB → FE J Ok (base 45) 36 [(0, .slice A m cap), (1, .int .i64 z), (2, .slice none 0 0), (3, .int .i64 0), (4, .int .i64 m), (6, .bool (decide (1 ≤ z))), (8, .int .i64 (p : Nat)), (9, .bool f)] [.code X1, .inLoop X1, .inBlock 0, .code (d45 3)] W := by
 intro l'
 induction l' with
 | nil =>
  intro p hp hpm f hf
  obtain rfl : p = m := by
   have := congrArg List.length hp
   simp only [List.length_drop, List.length_nil, h.len] at this
   omega
  have hff : f = l.all rightB := by simpa using hf
  subst hff
  have hlt : ¬ ((p : Nat) : Int) < ((p : Nat) : Int) := by omega
  generalize d45 3 = r3 at *
  simp only [X1, d45, Th.c45, cR, cLl, cB, cLp]
  repeat (first
   | refine FE.bin (op := .lss) U rfl rfl rfl (by k_ne) rfl rfl rfl (ltF hlt) (by first | exact trivial | exact .int _ _ | exact .bool _) ?_
   | refine FE.regionEnd U ?_
   | refine FE.seq U ?_
   | refine FE.region _ U rfl ?_
   | (refine FE.cond false U rfl ?_; simp only [if_true, if_false, Bool.false_eq_true, ↓reduceIte])
   | refine FE.exit U rfl ?_)
  exact FE.to [(0, .slice A p cap), (1, .int .i64 z), (2, .slice none 0 0), (3, .int .i64 0), (4, .int .i64 p), (6, .bool (decide (1 ≤ z))), (9, .bool (l.all rightB))] ⟨rfl, rfl, rfl, rfl, rfl, rfl, rfl, trivial⟩ hend
 | cons y l' ih =>
  intro p hp hpm f hf
  have hpl : p < l.length := by
   have := congrArg List.length hp
   simp only [List.length_drop, List.length_cons] at this
   omega
  have hlm := h.len
  have hsm := h.small
  have hy : l.getD p 0 = y := by
   have := congrArg (fun x : List Int => x.getD 0 0) hp
   simpa [List.getD_eq_getElem?_getD] using this
  have hdr : l.drop (p + 1) = l' := by
   have := congrArg List.tail hp
   simpa [List.tail_drop] using this
  obtain ⟨ad, hA⟩ := h.nil (by omega)
  have hel := h.el p ad (by omega) hA
  rw [hy] at hel
  have ih' := ih (p + 1) hdr (by omega) (f && rightB y) (by rw [← hf, List.all_cons, Bool.and_assoc])
  clear ih
  subst hA
  have hlt : ((p : Nat) : Int) < ((m : Nat) : Int) := by omega
  have h0p : (0 : Int) ≤ ((p : Nat) : Int) := by omega
  generalize d45 3 = r3 at *
  simp only [X1, d45, Th.c45, cR, cLl, cB, cLp] at ih' ⊢
  repeat (first
   | refine FE.bin (op := .lss) U rfl rfl rfl (by k_ne) rfl rfl rfl (ltT hlt) (by first | exact trivial | exact .int _ _ | exact .bool _) ?_
   | refine FE.regionEnd U ?_
   | refine FE.seq U ?_
   | refine FE.region _ U rfl ?_
   | (refine FE.cond true U rfl ?_; simp only [if_true, if_false, Bool.false_eq_true, ↓reduceIte])
   | refine FE.skip U ?_)
  refine FE.ia U rfl rfl rfl (by k_ne) rfl rfl rfl (ix57q h0p hlt W) trivial ?_
  rw [Int.toNat_natCast]
  refine FE.rd U rfl rfl rfl (by k_ne) rfl rfl (loadq W hel) trivial ?_
  repeat (first
   | refine FE.bin (op := .add) U rfl rfl rfl (by k_ne) rfl rfl rfl (add1q (p := p) (by omega)) (by first | exact trivial | exact .int _ _ | exact .bool _) ?_
   | refine FE.mv U rfl rfl rfl (by k_ne) rfl rfl (by first | exact trivial | exact .int _ _ | exact .bool _) ?_
   | refine FE.bin U rfl rfl rfl (by k_ne) rfl rfl rfl rfl (by first | exact trivial | exact .int _ _ | exact .bool _) ?_
   | refine FE.regionEnd U ?_
   | refine FE.pick U rfl rfl rfl (by k_ne) rfl rfl ⟨_, _, rfl, rfl, pickB _ _⟩ (by first | exact trivial | exact .int _ _ | exact .bool _) ?_)
  refine FE.inLoop U ?_
  exact FE.to [(0, .slice (some ad) m cap), (1, .int .i64 z), (2, .slice none 0 0), (3, .int .i64 0), (4, .int .i64 m), (6, .bool (decide (1 ≤ z))), (8, .int .i64 ((p + 1 : Nat))), (9, .bool (f && rightB y))] ⟨rfl, rfl, rfl, rfl, rfl, rfl, rfl, rfl, trivial⟩ ih'
end
def RT (Goal : Frame → List Frame → World → Prop) (f : Frame) (cs : List Frame) (w : World) : Prop := ∃ N f2 cs2 w2, runN Th.prog N (lone f cs w) = .next (lone f2 cs2 w2) ∧ Goal f2 cs2 w2
theorem RT.goal {Goal : Frame → List Frame → World → Prop} {f : Frame} {cs : List Frame} {w : World} (h : Goal f cs w) : RT Goal f cs w := ⟨0, f, cs, w, rfl, h⟩
theorem rt_clos {Goal : Frame → List Frame → World → Prop} {cs : List Frame} : Clos Th.prog cs (fun f w => RT Goal f cs w) (fun _ => True) (fun _ => True) :=
 ⟨fun f f1 w w1 es h kk => by
   obtain ⟨N, f2, cs2, w2, h1, h2⟩ := kk
   have hst : step Th.prog (lone f cs w) = .next (lone f1 cs w1) := step_lone_go ((congrArg GStep.bare h).trans rfl)
   exact ⟨N + 1, f2, cs2, w2, by simp only [runN, hst]; exact h1, h2⟩, fun _ _ _ _ _ => trivial⟩
theorem body45q : Th.f45.body = some Th.c45 := by unfold Th.f45; rfl
theorem enter45q (v1 v2 : Value) : Frame.enter Th.prog 45 #[v1, v2] .normal = (base 45).at ⟨#[v1, v2] ++ Array.replicate 34 undef, []⟩ [.code Th.c45] := by
 rw [enter_at (c := Th.c45) _ Th.func45 body45q, Th.ntmps45]
 rfl
theorem okV_none {A : Nat → Prop} {a b : Nat} : OkV A (.slice none a b) := .slice fun x e => by cases e
theorem run_lnq {e : Operand → Value} {o : Oper} {A : Option Addr} {n cap : Nat} (hop : o.op = .call { callee := .builtin .len, args := #[.tmp 0], argTypes := #[57] }) (ht : o.type = 3) (he : e (.tmp 0) = .slice A n cap) (w : World) : (execOp e o).run Th.prog w = .ok (.value (.int .i64 n)) w := by
 have h1 := lenq A n cap w
 simp [execOp, resolve, invoke, builtin, hop, go_sem, he, ht, h1, Result.andThen]
theorem run_slq {e : Operand → Value} {o : Oper} {x v : Value} {m : Int} {w w1 : World} (hop : o.op = .slice 57 (.tmp 0) none (some (.tmp 4)) none) (he : e (.tmp 0) = x) (he4 : e (.tmp 4) = .int .i64 m) (hr : (Instr.sliceAt 57 x none (some (.int .i64 m)) none).run Th.prog w = .ok v w1) : (execOp e o).run Th.prog w = .ok (.value v) w1 := by
 have e1 : execOp e o = (do Pure.pure (Next.value (← Instr.sliceAt 57 x none (some (.int .i64 m)) none))) := by simp only [execOp, hop, he, Option.map_some, he4, Option.map_none]
 rw [e1]
 simp [hr, Result.andThen]
theorem leqT {a c : Int} (h : a ≤ c) : binOp .leq 3 (.int .i64 a) (.int .i64 c) = pure (.bool true) := by
 have e : binOp .leq 3 (.int .i64 a) (.int .i64 c) = pure (.bool (decide (a ≤ c))) := rfl
 rw [e, decide_eq_true h]
theorem leqF {a c : Int} (h : ¬ a ≤ c) : binOp .leq 3 (.int .i64 a) (.int .i64 c) = pure (.bool false) := by
 have e : binOp .leq 3 (.int .i64 a) (.int .i64 c) = pure (.bool (decide (a ≤ c))) := rfl
 rw [e, decide_eq_false h]
set_option maxRecDepth 100000 in
set_option maxHeartbeats 8000000 in
theorem spread_calls {W : World} {A : Option Addr} {m cap : Nat} {l : List Int} {z : Int} (h : HSl W A m cap l) :
  Calls Th.prog 45 #[.slice A m cap, .int .i64 z] W fun e w' => ∃ v1 v2, e = .returned (.tuple #[v1, v2]) ∧ Out45 W m l z v1 v2 w' := by
 intro cs
 let Goal : Frame → List Frame → World → Prop := fun f cs2 w2 => cs2 = cs ∧ ∃ T todo v1 v2, f = { (base 45).at ⟨T, []⟩ todo with mode := .returning } ∧ T[2]? = some v1 ∧ T[3]? = some v2 ∧ Out45 W m l z v1 v2 w2
 suffices hx : RT Goal (Frame.enter Th.prog 45 #[.slice A m cap, .int .i64 z] .normal) cs W by
  obtain ⟨N, f2, cs2, w2, h1, rfl, T, todo, v1, v2, rfl, t2, t3, ho⟩ := hx
  refine ⟨.returned (.tuple #[v1, v2]), w2, _, ⟨v1, v2, rfl, ho⟩, ⟨N, h1⟩, rfl, rfl, rfl, rfl, Th.f45, Th.func45, ?_⟩
  simp [results, Th.results45, Frame.at, t2, t3, go_sem]
 rw [enter45q]
 have U : Clos Th.prog cs (fun f w => RT Goal f cs w) (fun _ => True) (fun _ => True) := rt_clos
 have ht := tail45 (z := z) U h (fun T todo v1 v2 w' t2 t3 ho => RT.goal ⟨rfl, T, todo, v1, v2, rfl, t2, t3, ho⟩)
 have hl := loopA U h ht l 0 rfl (Nat.zero_le _) true (by simp)
 clear ht
 refine (?_ : FE (fun f w => RT Goal f cs w) (fun _ => True) (base 45) 36 [(0, .slice A m cap), (1, .int .i64 z)] [.code Th.c45] W) _ (by simp) trivial (looks2 _ _ _)
 have hsm : ((m : Nat) : Int) ≤ 1000000000 := by have := h.small; omega
 have hcap := h.cap
 unfold Th.c45
 refine FE.seq U ?_
 refine FE.region _ U rfl ?_
 refine FE.as U rfl rfl rfl (by k_ne) rfl rfl trivial ?_
 refine FE.as U rfl rfl rfl (by k_ne) rfl rfl trivial ?_
 refine FE.val (v := .int .i64 m) U rfl rfl (by k_ne) rfl trivial (fun e he => run_lnq rfl rfl (he (.tmp 0) (.slice A m cap) rfl) W) ?_
 refine FE.val (v := sliced A 0 m cap 1) U rfl rfl (by k_ne) rfl trivial (fun e he => run_slq rfl (he (.tmp 0) (.slice A m cap) rfl) (he (.tmp 4) (.int .i64 m) rfl) (cutq hcap W)) ?_
 repeat (first
  | refine FE.bin (op := .leq) U rfl rfl rfl (by k_ne) rfl rfl rfl (leqT hsm) (by first | exact trivial | exact .int _ _ | exact .bool _) ?_
  | refine FE.mv U rfl rfl rfl (by k_ne) rfl rfl (by first | exact trivial | exact .int _ _ | exact .bool _) ?_
  | refine FE.bin U rfl rfl rfl (by k_ne) rfl rfl rfl rfl (by first | exact trivial | exact .int _ _ | exact .bool _) ?_
  | refine FE.regionEnd U ?_
  | refine FE.seq U ?_
  | (refine FE.cond true U rfl ?_; simp only [if_true, if_false, Bool.false_eq_true, ↓reduceIte])
  | refine FE.skip U ?_
  | refine FE.block U ?_)
 refine FE.loop U ?_
 exact FE.to [(0, .slice A m cap), (1, .int .i64 z), (2, .slice none 0 0), (3, .int .i64 0), (4, .int .i64 m), (6, .bool (decide (1 ≤ z))), (8, .int .i64 ((0 : Nat))), (9, .bool true)] ⟨rfl, rfl, rfl, rfl, rfl, rfl, rfl, rfl, trivial⟩ hl
theorem len_inv {v x : Value} {w w1 : World} (h : (Builtin.len_ #[57] 3 #[v]).run Th.prog w = .ok x w1) : ∃ A n cap, v = .slice A n cap ∧ x = .int .i64 (n : Nat) ∧ w1 = w := by
 unfold Builtin.len_ at h
 cases v <;> simp [go_sem, goInt] at h
 ·obtain ⟨rfl, rfl⟩ := h
  exact ⟨_, _, _, rfl, rfl, rfl⟩
theorem cut_inv {A : Option Addr} {n cap : Nat} {x : Value} {w w1 : World} (h : (Instr.sliceAt 57 (.slice A n cap) none (some (.int .i64 (n : Nat))) none).run Th.prog w = .ok x w1) : n ≤ cap ∧ w1 = w ∧ x = sliced A 0 n cap 1 := by
 by_cases hc : n ≤ cap
 ·rw [run_sliceAt_slice (h := e57q), run_slice_h (ht := e57q) (h0 := by omega) (h2 := by omega), e57q', Th.sizeOf3] at h
  simp [Result.andThen] at h
  exact ⟨hc, h.2.symm, h.1.symm⟩
 ·exfalso
  obtain ⟨s, w', hp⟩ := run_boundsPanic (P := Th.prog) (w := w) (α := Nat) .i64 n cap .sliceAcap
  simp [Instr.sliceAt, Instr.slice, Instr.sliceBounds, Instr.sliceBound, go_sem, hc, hp, asIntOf] at h
theorem index_inv {A : Option Addr} {n cap p : Nat} {x : Value} {w w1 : World} (hp : p < n) (h : (Instr.indexAt 57 (.slice A n cap) (.int .i64 (p : Nat))).run Th.prog w = .ok x w1) : ∃ ad, A = some ad ∧ x = .pointer (some (ad.add p)) ∧ w1 = w := by
 cases A with
 | none =>
  exfalso
  obtain ⟨s, w', hp⟩ := run_boundsPanic (P := Th.prog) (w := w) (α := Value) .i64 p 0 .index
  simp [Instr.indexAt, go_sem, asIntOf, hp] at h
 | some ad =>
  rw [run_indexAt_slice (h := e57q), if_pos (by omega), e57q', Th.sizeOf3] at h
  simp [Result.andThen] at h
  exact ⟨ad, rfl, h.1.symm, h.2.symm⟩
theorem cmp_inv {v x : Value} {m : Int} {w w1 : World} (h : (binOp .geq 3 v (.int .i64 m)).run Th.prog w = .ok x w1) : ∃ y, v = .int .i64 y := by
 cases v <;> simp [binOp, go_sem] at h
 all_goals
  rename_i k y
  by_cases hk : k = .i64
  ·subst hk; exact ⟨y, rfl⟩
  ·simp [hk, go_sem] at h
theorem val_inv {P : Program} {s : Sem Value} {nx : Next} {w w1 : World} (h : (do pure (Next.value (← s)) : Sem Next).run P w = .ok nx w1) : ∃ x, s.run P w = .ok x w1 ∧ nx = .value x := by
 have e : (do pure (Next.value (← s)) : Sem Next).run P w = (s.run P w).andThen fun a w' => .ok (.value a) w' := by simp [go_sem]
 rw [e] at h
 cases hs : s.run P w with
 | ok x w2 =>
  rw [hs] at h
  simp [Result.andThen] at h
  exact ⟨x, by rw [h.2], h.1.symm⟩
 | halt hh w2 => rw [hs] at h; simp [Result.andThen] at h
theorem step_leave45q {T : Array Value} {todo : List Item} {w : World} {C : List Frame} (f0 : Frame) : stepG Th.prog true (G { (base 45).at ⟨T, []⟩ todo with mode := .returning } (f0 :: C)) w = .go (G (f0.finish (.tuple #[T.getD 2 undef, T.getD 3 undef])) C) w #[] := by
 simp [G, stepG, unwind, doReturn, results, Frame.at, base, Th.func45, Th.results45, seen, GStep.after, Act.eval]
section
variable [Zone]
theorem load_inv {A : Nat → Prop} {ad : Addr} {x : Value} {w w1 : World} (hA : A ad.block ∨ ZIn ad 1) (hrel : Rel A w w) (h : (Instr.loadAt 3 (.pointer (some ad))).run Th.prog w = .ok x w1) : w.cell? ad = some x ∧ w1 = w ∧ OkV A x := by
 rcases hA with hA | hA
 rotate_left 1
 ·obtain ⟨z, hc⟩ := hrel.zCell hA
  simp [Instr.loadAt, Instr.sureAddr, loadVar, go_sem, hc] at h
  obtain ⟨rfl, rfl⟩ := h
  exact ⟨hc, rfl, .int _ _⟩
 cases hc : w.cell? ad with
 | some y =>
  simp [Instr.loadAt, Instr.sureAddr, loadVar, go_sem, hc] at h
  obtain ⟨rfl, rfl⟩ := h
  refine ⟨rfl, rfl, ?_⟩
  unfold World.cell? at hc
  cases ho : w.heap[ad.block]? with
  | none => rw [ho] at hc; cases hc
  | some o =>
   rw [ho] at hc
   have := hrel.ok ad.block o hA ho
   cases o <;> first | (simp at hc; done) | skip
   rename_i c el fz
   simp only at hc
   split at hc
   ·cases hc
   ·exact this y (Array.mem_of_getElem? hc)
 | none =>
  exfalso
  have hn : ∃ e, World.farLoad Th.prog w ad (Mode.plain == Mode.atomic) = .error e := by
   unfold World.farLoad
   cases ho : w.heap[ad.block]? with
   | none => exact ⟨_, rfl⟩
   | some o =>
    have := hrel.ok ad.block o hA ho
    cases o <;> first | exact ⟨_, rfl⟩ | exact this.elim
  obtain ⟨e, he⟩ := hn
  simp [Instr.loadAt, Instr.sureAddr, loadVar, go_sem, hc, he] at h
omit [Zone] in
theorem sl0 (A : Option Addr) (k cap : Nat) : sliced A 0 k cap 1 = .slice A k cap := by unfold sliced; cases A <;> simp [Addr.add]
variable {Fin : Cfg → Prop} (hf : ∀ c, Fin c → c.cs = []) {A' : Nat → Prop} {f0 : Frame} {cs : List Frame} {W : World}
include hf
theorem dead45 {Goal : Cfg → Prop} {ρ : Rho} {k : List Item} (hrel : Rel A' W W) : FE (fun f w => LT Fin Goal ⟨f, f0 :: cs, w⟩) (Li.TmOk A' 45) (base 45) 36 ρ (.code (.region 90 #[{ dst := some 35, op := .extract (.const (.bool false)) 0, type := 0, pos := "", after := #[], guard := none }] false) :: k) W := by
 refine FE.region _ (lt_clos hf) rfl ?_
 refine LE.op hf rfl rfl rfl rfl (by kernel_rfl) hrel fun e he ok nx w1 hr => ?_
 exfalso
 have : e (.const (.bool false)) = .bool false := he _ _ rfl
 simp [execOp, Instr.extract, go_sem, this] at hr
set_option maxRecDepth 100000 in
set_option maxHeartbeats 8000000 in
theorem loopI {Goal : Cfg → Prop} (hrel : Rel A' W W) {A : Option Addr} {m cap : Nat} {z : Int} (hAd : (∀ ad, A = some ad → A' ad.block) ∨ ∃ ad, A = some ad ∧ ZIn ad cap ∧ m ≤ cap) (hs : m ≤ 1000000000) :
  ∀ (r p : Nat), p + r = m → ∀ f : Bool,
  (∀ l' : List Int, l'.length = r → (∀ q ad, q < r → A = some ad → W.cell? (ad.add (p + q)) = some (.int .i64 (l'.getD q 0))) → (0 < r → ∃ ad, A = some ad) →
    FE (fun f w => LT Fin Goal ⟨f, f0 :: cs, w⟩) (Li.TmOk A' 45) (base 45) 36 [(0, .slice A m cap), (1, .int .i64 z), (2, .slice none 0 0), (3, .int .i64 0), (4, .int .i64 m), (6, .bool (decide (1 ≤ z))), (9, .bool (f && l'.all rightB))] [.code (d45 3)] W) →
  FE (fun f w => LT Fin Goal ⟨f, f0 :: cs, w⟩) (Li.TmOk A' 45) (base 45) 36 [(0, .slice A m cap), (1, .int .i64 z), (2, .slice none 0 0), (3, .int .i64 0), (4, .int .i64 m), (6, .bool (decide (1 ≤ z))), (8, .int .i64 (p : Nat)), (9, .bool f)] [.code X1, .inLoop X1, .inBlock 0, .code (d45 3)] W := by
 intro r
 have U : Clos Th.prog (f0 :: cs ++ [c0]) (fun f w => LT Fin Goal ⟨f, f0 :: cs, w⟩) (Li.TmOk A' 45) (OkV A') := lt_clos hf
 induction r with
 | zero =>
  intro p hp f hend
  obtain rfl : p = m := by omega
  have he := hend [] rfl (fun q ad hq => absurd hq (Nat.not_lt_zero q)) (fun h => absurd h (Nat.lt_irrefl 0))
  rw [List.all_nil, Bool.and_true] at he
  have hlt : ¬ ((p : Nat) : Int) < ((p : Nat) : Int) := by omega
  clear hend
  generalize d45 3 = r3 at *
  simp only [X1, d45, Th.c45, cR, cLl, cB, cLp]
  repeat (first
   | refine FE.bin (op := .lss) U rfl rfl rfl (by k_ne) rfl rfl rfl (ltF hlt) (by first | exact trivial | exact .int _ _ | exact .bool _) ?_
   | refine FE.regionEnd U ?_
   | refine FE.seq U ?_
   | refine FE.region _ U rfl ?_
   | (refine FE.cond false U rfl ?_; simp only [if_true, if_false, Bool.false_eq_true, ↓reduceIte])
   | refine FE.exit U rfl ?_)
  exact FE.to [(0, .slice A p cap), (1, .int .i64 z), (2, .slice none 0 0), (3, .int .i64 0), (4, .int .i64 p), (6, .bool (decide (1 ≤ z))), (9, .bool (f))] ⟨rfl, rfl, rfl, rfl, rfl, rfl, rfl, trivial⟩ he
 | succ r ih =>
  intro p hp f hend
  have hlt : ((p : Nat) : Int) < ((m : Nat) : Int) := by omega
  have ih' := fun y => ih (p + 1) (by omega) (f && rightB y)
  clear ih
  generalize d45 3 = r3 at *
  simp only [X1, d45, Th.c45, cR, cLl, cB, cLp] at ih' ⊢
  repeat (first
   | refine FE.bin (op := .lss) U rfl rfl rfl (by k_ne) rfl rfl rfl (ltT hlt) (by first | exact trivial | exact .int _ _ | exact .bool _) ?_
   | refine FE.regionEnd U ?_
   | refine FE.seq U ?_
   | refine FE.region _ U rfl ?_
   | (refine FE.cond true U rfl ?_; simp only [if_true, if_false, Bool.false_eq_true, ↓reduceIte])
   | refine FE.skip U ?_)
  refine LE.op hf rfl rfl rfl rfl (by kernel_rfl) hrel fun e he ok nx w1 hr => ?_
  obtain ⟨x, hx, rfl⟩ := val_inv (s := Instr.indexAt 57 (e (.tmp 0)) (e (.tmp 8))) hr
  rw [he (.tmp 0) (.slice A m cap) rfl, he (.tmp 8) (.int .i64 (p : Nat)) rfl] at hx
  obtain ⟨ad, rfl, rfl, rfl⟩ := index_inv (by omega) hx
  have hpt : A' (ad.add p).block ∨ ZIn (ad.add p) 1 := by
   rcases hAd with h | ⟨ad', e', hz, hmc⟩
   ·exact .inl (by rw [add_block]; exact h _ rfl)
   ·obtain rfl := Option.some.inj e'
    exact .inr (hz.sub (by omega))
  refine ⟨_, rfl, hpt.imp (fun h => .ptr fun y hy => by cases hy; exact h) (fun h => ⟨fun d e => by cases e; rfl, .ptr h⟩), ?_⟩
  clear hr hx he ok e
  refine LE.op hf rfl rfl rfl rfl (by kernel_rfl) hrel fun e he ok nx w2 hr => ?_
  obtain ⟨x, hx, rfl⟩ := val_inv (s := Instr.loadAt 3 (e (.tmp 11))) hr
  rw [he (.tmp 11) (.pointer (some (ad.add p))) rfl] at hx
  obtain ⟨hc, rfl, hv⟩ := load_inv hpt hrel hx
  refine ⟨_, rfl, .inl hv, ?_⟩
  clear hr hx he ok e
  refine LE.op hf rfl rfl rfl rfl (by kernel_rfl) hrel fun e he ok nx w3 hr => ?_
  obtain ⟨x3, hx, rfl⟩ := val_inv (s := binOp .geq 3 (e (.tmp 12)) (e (.const (.int .i64 0)))) hr
  rw [he (.tmp 12) x rfl, he (.const (.int .i64 0)) (.int .i64 0) rfl] at hx
  obtain ⟨y, rfl⟩ := cmp_inv hx
  have e3 : binOp .geq 3 (.int .i64 y) (.int .i64 0) = pure (.bool (decide (0 ≤ y))) := rfl
  rw [e3] at hx
  obtain ⟨rfl, rfl⟩ : .bool (decide (0 ≤ y)) = x3 ∧ w2 = w3 := by
   have := hx
   simp only [Sem.run_pure] at this
   injection this with h1 h2
   exact ⟨h1, h2⟩
  refine ⟨_, rfl, .inl (.bool _), ?_⟩
  clear hr hx he ok e e3
  repeat (first
   | refine FE.bin (op := .add) U rfl rfl rfl (by k_ne) rfl rfl rfl (add1q (p := p) (by omega)) (by first | exact trivial | exact .int _ _ | exact .bool _) ?_
   | refine FE.mv U rfl rfl rfl (by k_ne) rfl rfl (by first | exact trivial | exact .int _ _ | exact .bool _) ?_
   | refine FE.bin U rfl rfl rfl (by k_ne) rfl rfl rfl rfl (by first | exact trivial | exact .int _ _ | exact .bool _) ?_
   | refine FE.regionEnd U ?_
   | refine FE.pick U rfl rfl rfl (by k_ne) rfl rfl ⟨_, _, rfl, rfl, pickB _ _⟩ (by first | exact trivial | exact .int _ _ | exact .bool _) ?_)
  refine FE.inLoop U ?_
  refine FE.to [(0, .slice (some ad) m cap), (1, .int .i64 z), (2, .slice none 0 0), (3, .int .i64 0), (4, .int .i64 m), (6, .bool (decide (1 ≤ z))), (8, .int .i64 ((p + 1 : Nat))), (9, .bool (f && rightB y))] ⟨rfl, rfl, rfl, rfl, rfl, rfl, rfl, rfl, trivial⟩ (ih' y fun l' h1 h2 h3 => ?_)
  have := hend (y :: l') (by simp [h1]) (fun q a hq e => ?_) (fun _ => ⟨ad, rfl⟩)
  ·rw [List.all_cons, ← Bool.and_assoc] at this
   exact this
  ·obtain rfl := Option.some.inj e
   rcases q with _ | q
   ·exact hc
   ·have := h2 q ad (by omega) rfl
    rw [show p + 1 + q = p + (q + 1) by omega] at this
    simpa using this
set_option maxRecDepth 100000 in
set_option maxHeartbeats 8000000 in
theorem lone45 {args : Array Value} (hA : Li.TmOk A' 45 args) (h2 : args.size = 2) (hrel : Rel A' W W) :
  LT Fin (fun c => ∃ (A : Option Addr) (m cap : Nat) (l : List Int) (z : Int) (v1 v2 : Value) (w' : World), args = #[.slice A m cap, .int .i64 z] ∧ HSl W A m cap l ∧ Out45 W m l z v1 v2 w' ∧ c = ⟨f0.finish (.tuple #[v1, v2]), cs, w'⟩) ⟨Frame.enter Th.prog 45 args .normal, f0 :: cs, W⟩ := by
 obtain ⟨v, u, rfl⟩ : ∃ v u, args = #[v, u] := by
  obtain ⟨l⟩ := args
  match l, h2 with
  | [v, u], _ => exact ⟨v, u, rfl⟩
 have hv : OkW A' v := (hA 0 v rfl).imp id fun h => h.2
 have hu : OkV A' u := (hA 1 u rfl).resolve_right fun h => absurd h.1 (by decide)
 have hTm : Li.TmOk A' 45 (#[v, u] ++ Array.replicate 34 undef) := fun t x hx => by
  by_cases hlt : t < 2
  ·rw [Array.getElem?_append_left (by simpa using hlt)] at hx
   exact hA t x hx
  ·rw [Array.getElem?_append_right (by simpa using hlt), Array.getElem?_replicate] at hx
   split at hx
   ·cases hx; exact .inl OkV.undef
   ·cases hx
 rw [enter45q]
 generalize hGoal : (fun c : Cfg => ∃ (A : Option Addr) (m cap : Nat) (l : List Int) (z : Int) (v1 v2 : Value) (w' : World), #[v, u] = #[.slice A m cap, .int .i64 z] ∧ HSl W A m cap l ∧ Out45 W m l z v1 v2 w' ∧ c = ⟨f0.finish (.tuple #[v1, v2]), cs, w'⟩) = Goal
 refine (?_ : FE (fun f w => LT Fin Goal ⟨f, f0 :: cs, w⟩) (Li.TmOk A' 45) (base 45) 36 [(0, v), (1, u)] [.code Th.c45] W) _ (by simp) hTm (looks2 _ _ _)
 have U : Clos Th.prog (f0 :: cs ++ [c0]) (fun f w => LT Fin Goal ⟨f, f0 :: cs, w⟩) (Li.TmOk A' 45) (OkV A') := lt_clos hf
 have hloop := fun (A : Option Addr) (m cap : Nat) (z : Int) hAd hs => loopI hf (Goal := Goal) (f0 := f0) (cs := cs) hrel (A := A) (m := m) (cap := cap) (z := z) hAd hs m 0 (by omega) true
 have hdead := fun ρ k => dead45 hf (Goal := Goal) (f0 := f0) (cs := cs) (ρ := ρ) (k := k) hrel
 have htail := fun (A : Option Addr) (m cap : Nat) (l : List Int) (z : Int) (h : HSl W A m cap l) (hg : #[v, u] = #[.slice A m cap, .int .i64 z]) => tail45 (z := z) (lt_any (Goal := Goal) hf (f0 := f0) (cs := cs)) h (fun T todo v1 v2 w' t2 t3 ho => LT.step hf (by simp) fun g' w'' es' e _ => by
   have e' : stepG Th.prog true (G { (base 45).at ⟨T, []⟩ todo with mode := .returning } (f0 :: (cs ++ [c0]))) w' = .go g' w'' es' := e
   rw [step_leave45q] at e'
   injection e' with e1 e2
   refine ⟨⟨f0.finish _, cs, w'⟩, e1.symm, e2.symm, LT.goal ?_⟩
   rw [← hGoal]
   refine ⟨A, m, cap, l, z, v1, v2, w', hg, h, ho, ?_⟩
   rw [Array.getD_eq_getD_getElem?, Array.getD_eq_getD_getElem?, t2, t3]
   rfl)
 unfold Th.c45
 refine FE.seq U ?_
 refine FE.region _ U rfl ?_
 refine FE.as U rfl rfl rfl (by k_ne) rfl rfl okV_none ?_
 refine FE.as U rfl rfl rfl (by k_ne) rfl rfl (.int _ _) ?_
 refine LE.op hf rfl rfl rfl rfl (by kernel_rfl) hrel fun e he ok nx w1 hr => ?_
 have hr2 : (do pure (Next.value (← Builtin.len_ #[57] 3 #[e (.tmp 0)])) : Sem Next).run Th.prog W = .ok nx w1 := by
  rw [← hr]
  simp [execOp, resolve, invoke, builtin, go_sem]
 rw [he (.tmp 0) v rfl] at hr2
 obtain ⟨x, hx, rfl⟩ := val_inv hr2
 obtain ⟨A, m, cap, rfl, rfl, rfl⟩ := len_inv hx
 refine ⟨_, rfl, .inl (.int _ _), ?_⟩
 clear hr hr2 hx he ok e
 have hAd : (∀ ad, A = some ad → A' ad.block) ∨ ∃ ad, A = some ad ∧ ZIn ad cap ∧ m ≤ cap := by
  rcases hv with h | h
  ·cases h with | slice h => exact .inl h
  ·cases h with | slice h hl => exact .inr ⟨_, rfl, h, hl⟩
 refine LE.op hf rfl rfl rfl rfl (by kernel_rfl) hrel fun e he ok nx w2 hr => ?_
 obtain ⟨x, hx, rfl⟩ := val_inv (s := Instr.sliceAt 57 (e (.tmp 0)) none (some (e (.tmp 4))) none) hr
 rw [he (.tmp 0) (.slice A m cap) rfl, he (.tmp 4) (.int .i64 (m : Nat)) rfl] at hx
 obtain ⟨hcap, rfl, rfl⟩ := cut_inv hx
 refine ⟨_, rfl, hv.imp (fun h => by rw [sl0]; exact h) (fun h => ⟨fun d e => by cases e; rfl, by rw [sl0]; exact h⟩), ?_⟩
 clear hr hx he ok e
 refine LE.op hf rfl rfl rfl rfl (by kernel_rfl) hrel fun e he ok nx w3 hr => ?_
 obtain ⟨x3, hx, rfl⟩ := val_inv (s := binOp .geq 3 (e (.tmp 1)) (e (.const (.int .i64 1)))) hr
 rw [he (.tmp 1) u rfl, he (.const (.int .i64 1)) (.int .i64 1) rfl] at hx
 obtain ⟨z, rfl⟩ := cmp_inv hx
 have e3 : binOp .geq 3 (.int .i64 z) (.int .i64 1) = pure (.bool (decide (1 ≤ z))) := rfl
 rw [e3] at hx
 obtain ⟨rfl, rfl⟩ : .bool (decide (1 ≤ z)) = x3 ∧ w2 = w3 := by
  have := hx
  simp only [Sem.run_pure] at this
  injection this with h1 h2
  exact ⟨h1, h2⟩
 refine ⟨_, rfl, .inl (.bool _), ?_⟩
 clear hr hx he ok e e3
 by_cases hsm : ((m : Nat) : Int) ≤ 1000000000
 ·have hs : m ≤ 1000000000 := by omega
  repeat (first
   | refine FE.bin (op := .leq) U rfl rfl rfl (by k_ne) rfl rfl rfl (leqT hsm) (by first | exact trivial | exact .int _ _ | exact .bool _) ?_
   | refine FE.mv U rfl rfl rfl (by k_ne) rfl rfl (by first | exact trivial | exact .int _ _ | exact .bool _) ?_
   | refine FE.regionEnd U ?_
   | refine FE.seq U ?_
   | (refine FE.cond true U rfl ?_; simp only [if_true, if_false, Bool.false_eq_true, ↓reduceIte])
   | refine FE.skip U ?_
   | refine FE.block U ?_)
  refine FE.loop U ?_
  refine FE.to [(0, .slice A m cap), (1, .int .i64 z), (2, .slice none 0 0), (3, .int .i64 0), (4, .int .i64 m), (6, .bool (decide (1 ≤ z))), (8, .int .i64 ((0 : Nat))), (9, .bool true)] ⟨rfl, rfl, rfl, rfl, rfl, rfl, rfl, rfl, trivial⟩ (hloop A m cap z hAd hs fun l' h1 h2 h3 => ?_)
  rw [Bool.true_and]
  exact FE.weak (htail A m cap l' z ⟨h3, fun q ad hq e => by have := h2 q ad hq e; rwa [Nat.zero_add] at this, h1, hcap, hs⟩ rfl)
 ·repeat (first
   | refine FE.bin (op := .leq) U rfl rfl rfl (by k_ne) rfl rfl rfl (leqF hsm) (by first | exact trivial | exact .int _ _ | exact .bool _) ?_
   | refine FE.mv U rfl rfl rfl (by k_ne) rfl rfl (by first | exact trivial | exact .int _ _ | exact .bool _) ?_
   | refine FE.regionEnd U ?_
   | refine FE.seq U ?_
   | (refine FE.cond false U rfl ?_; simp only [if_true, if_false, Bool.false_eq_true, ↓reduceIte]))
  exact hdead _ _
end
end Go.Proofs.Ytnikfjfcbpeieaa.Hk
end
section
namespace Go.Proofs.Ytnikfjfcbpeieaa.Hk
open Go Go.Conc Go.RowKit Go.Proofs.Ytnikfjfcbpeieaa.Lk
open Go.ConcM (OsLater)
set_option linter.unusedVariables false
set_option linter.unusedSimpArgs false
theorem okO_al {A : Nat → Prop} (c : List Int) : OkO A (alO c) := by
 intro v hv
 simp only [List.mem_toArray, List.mem_map] at hv
 obtain ⟨x, _, rfl⟩ := hv
 exact .int _ _
theorem dLh : Lh.dirty = diB := by unfold Lh; rfl
theorem dLi : Li.dirty = diB := by unfold Li Lk.solo; rfl
variable [Zone]
theorem tmLi {A : Nat → Prop} {f : Nat} {T : Array Value} (h : Lh.TmOk A f T) : Li.TmOk A f T := fun t v e => by
 have := h t v e
 rw [dLh] at this
 rw [dLi]
 exact this
theorem phase45 {Fin : Cfg → Prop} (hf : ∀ c, Fin c → c.cs = []) : Phase Lh Fin 45 := by
 intro S A args fr cs w' gs w sl t q hary hA hzr hlink hSusp hrel hT h0 hL hP hS
 rw [Lh_P'] at hT ⊢
 have hs0 := hSusp fr (by simp)
 have hself : Rel A w' w' := ⟨rfl, fun _ _ => rfl, hrel.ok, hrel.inb, OsLater.refl _, rfl, fun b hb => ⟨rfl, (hrel.z b hb).2⟩⟩
 obtain ⟨c2, hr, Ad, m, cap, l, z, v1, v2, x, rfl, hsl, hout, rfl⟩ := lone45 hf (tmLi hA) hary hself hT
 have hAd : ∀ ad, Ad = some ad → A ad.block ∨ Zone.blk = some ad.block := fun ad e => by
  have hv : OkW A (.slice Ad m cap) := (hA 0 _ rfl).imp id fun h => h.2
  subst e
  rcases hv with h | h
  ·cases h with | slice h => exact .inl (h _ rfl)
  ·cases h with | slice h _ => exact .inr h.1
 have hlow : ∀ b, A b → b < w.heap.size := fun b hb => by rw [← hrel.size]; exact hrel.inb b hb
 have hlowz : ∀ b, Zone.blk = some b → b < w.heap.size := fun b hb => by rw [← hrel.size]; exact (hrel.z b hb).2.1
 have hpre : HPre S w Ad m cap l := by
  refine ⟨fun ad e => ⟨(hAd ad e).elim (hlow _) (hlowz _), fun hs => (hAd ad e).elim (hS _ hs).1.1 (hS _ hs).1.2⟩, hsl.nil, fun p ad hp e => ?_, hsl.len, hsl.cap, hsl.small⟩
  have h1 := hsl.el p ad hp e
  have hsame : w'.heap[ad.block]? = w.heap[ad.block]? := (hAd ad e).elim (hrel.same _) fun h => (hrel.z _ h).1
  rw [World.cell?_of_block (show w.heap[(ad.add p).block]? = w'.heap[(ad.add p).block]? by rw [add_block]; exact hsame.symm)]
  exact h1
 obtain ⟨N, gs1, w1, sl1, t1, q1, v, k1, k2, k3, k5, k6⟩ := spread_company (z := z) (sl := sl) hpre (fun b hb => (hS b hb).2) hs0.kind h0 hL hP
 obtain ⟨ops, i, rst, kk, hto, hd⟩ := hs0.at_
 have hsz := hrel.size
 have go : ∀ S1 A1 : Nat → Prop, v = .tuple #[v1, v2] → OkV A1 v1 → OkV A1 v2 → x.heap.size = w1.heap.size → (∀ b, A b → A1 b) → (∀ b, A1 b → A b ∨ (w.heap.size ≤ b ∧ b < w1.heap.size ∧ x.heap[b]? = w1.heap[b]? ∧ ∃ c, w1.heap[b]? = some (alO c))) →
   Past (ShB S1) w1.heap.size t1 → (∀ b, S1 b → (¬ A1 b ∧ Zone.blk ≠ some b) ∧ b < w1.heap.size) →
   ∃ (c1 : Cfg) (N : Nat) (gs1 : Array Goroutine) (w1 : World) (sl1 : Option (Nat × Nat)) (t1 : Trace) (q1 : Nat → Nat) (S1 A1 : Nat → Prop),
    LReach Th.prog Fin ⟨Frame.enter Th.prog 45 #[.slice Ad m cap, .int .i64 z] .normal, fr :: cs, w'⟩ c1 ∧ runNT Lh.P N (crowd gs w sl) t = (.next (crowd gs1 w1 sl1), t1) ∧ Com Lh S1 A1 c1 gs1 w1 t1 q1 ∧
    (∀ b, A1 b → A b ∨ w.heap.size ≤ b) ∧ (∀ b, A b → A1 b) ∧ w1.tape = w.tape ∧ OsLater w.os w1.os ∧ w1.output = w.output ∧ w.heap.size ≤ w1.heap.size ∧ ∀ b, b < w.heap.size → ¬ A b → w1.heap[b]? = w.heap[b]? := by
  intro S1 A1 hv o1 o2 hs h1 h2 hp h3
  subst hv
  obtain ⟨f1, f2⟩ := finish_ok (A := A1) (hs0.toFrOk.mono h1) hto (v := .tuple #[v1, v2]) (.inl <| .tuple (by intro y hy; simp only [List.mem_toArray, List.mem_cons, List.not_mem_nil, or_false] at hy; rcases hy with rfl | rfl <;> assumption)) fun o d g e1 e2 e3 => by rw [hd o d e1 e2] at e3; cases e3
  refine ⟨_, N, gs1, w1, sl1, t1, q1, S1, A1, hr, k1, ⟨k2, k3, hp, f1, .inl (f2.trans hs0.run), fun f hf => (hSusp f (by simp [hf])).mono h1, ⟨hs, fun b hb => ?_, fun b o hb ho => ?_, fun b hb => ?_, (show OsLater x.os w1.os by rw [hout.below.os]; exact hrel.os.trans k5.os), (show x.output = w1.output by rw [hout.below.output, k5.output]; exact hrel.output), hrel.zMove (w1' := x) (w1 := w1) (fun b hb _ => hout.below.block b hb) (fun b hb _ => k5.block b hb) hout.below.size fun b hb => (h2 b hb).imp id fun h => by rw [hsz]; exact h.1⟩, h3, by rw [finish_fn]; exact hlink⟩, fun b hb => (h2 b hb).imp id fun h => h.1, h1, k5.tape, k5.os, k5.output, k5.size, fun b hb _ => k5.block b hb⟩
  ·rcases h2 b hb with h | ⟨_, _, h, _⟩
   ·show x.heap[b]? = w1.heap[b]?
    rw [hout.below.block b (hrel.inb b h), k5.block b (hlow b h)]
    exact hrel.same b h
   ·exact h
  ·change x.heap[b]? = some o at ho
   rcases h2 b hb with h | ⟨_, _, h, c, hc⟩
   ·rw [hout.below.block b (hrel.inb b h)] at ho
    exact (hrel.ok b o h ho).mono h1
   ·rw [h, hc] at ho
    cases ho
    exact okO_al c
  ·show b < x.heap.size
   rcases h2 b hb with h | ⟨_, h, _⟩
   ·have := hrel.inb b h
    have := hout.below.size
    omega
   ·omega
 rcases k6 with ⟨kp, e1, e2, e3⟩ | ⟨kp, e1, e1', e2, e3⟩ | ⟨kp, n, e0, e1, e1', e2, e3, e4⟩ <;> rcases hout.res with ⟨g1, g2, g3, g4⟩ | ⟨g1, g1', g2, g3, g4⟩ | ⟨n', g0, g1, g1', g2, g3, g4, g5⟩
 ·refine go S A (by rw [e2, g2, g3]) (by rw [g2]; exact okV_none) (by rw [g3]; exact .int _ _) (by omega) (fun _ h => h) (fun _ h => .inl h) kp fun b hb => ⟨(hS b hb).1, by have := (hS b hb).2; omega⟩
 ·rw [e1] at g1; cases g1
 ·rw [e1] at g1; cases g1
 ·rw [e1] at g1; cases g1
 ·refine go S A (by rw [e2, g2, g3]) (by rw [g2]; exact okV_none) (by rw [g3]; exact .int _ _) (by omega) (fun _ h => h) (fun _ h => .inl h) kp fun b hb => ⟨(hS b hb).1, by have := (hS b hb).2; omega⟩
 ·rw [e1'] at g1'; cases g1'
 ·rw [e1] at g1; cases g1
 ·rw [e1'] at g1'; cases g1'
 ·obtain rfl : n = n' := by omega
  refine go (fun b => S b ∨ b = w.heap.size + 4) (fun b => A b ∨ b = w.heap.size + 1) (by rw [e2, g2, g3, hsz]) (by rw [g2]; exact .slice fun y hy => by cases hy; exact .inr (by show w'.heap.size + 1 = _; rw [hsz])) (by rw [g3]; exact .int _ _) (by omega) (fun _ h => .inl h) (fun b h => h.imp id fun e => ?_) kp fun b hb => ?_
  ·subst e
   refine ⟨by omega, by omega, ?_, _, e4⟩
   rw [← hsz] at e4 ⊢
   rw [g5, e4]
  ·rcases hb with hb | rfl
   ·obtain ⟨h1, h2⟩ := hS b hb
    exact ⟨⟨fun h => h.elim h1.1 fun e => by omega, h1.2⟩, by omega⟩
   ·exact ⟨⟨fun h => h.elim (fun h => by have := hlow _ h; omega) fun e => by omega, fun h => by have := hlowz _ h; omega⟩, by omega⟩
omit [Zone] in
theorem results_one {fn : Func} {r : Nat} {tmps : Array Value} (hres : fn.results = #[.tmp r]) (P : Program) (w : World) : (results fn tmps).runT P w #[] = (.ok (tmps.getD r undef) w, #[]) := by
 simp [results, hres]
theorem company_of_lone {f r : Nat} {fn : Func} (hpl : plB f = true) (hho : ∀ t, hoB f t = none) (hfn : Try.prog.funcs[f]? = some fn) (hres : fn.results = #[.tmp r]) (hini : Try.prog.inits.idxOf? f = none) {args : Array Value} {W : World} (hA : Lh.TmOk (fun _ => False) f args) (hZ : ∀ b, Zone.blk = some b → b < W.heap.size ∧ ∀ i, Zone.lo ≤ i → i < Zone.hi → ∃ x, W.cell? ⟨b, i, none⟩ = some (.int .i64 x))
  (lone_ : ∀ T : TapeF, Calls Th.prog f args (tape W T) fun e _ => e = .returned (.bool true)) :
  Lk.Ends Try.prog (fun v w' => v = .bool true ∧ Below W.heap.size W { w' with os := W.os } ∧ OsLater W.os w'.os) (crowd #[G (Frame.enter Try.prog f args .normal) []] W none) #[] := by
 have hfq : Th.prog.funcs[f]? = some fn := by
  obtain ⟨fn', h1, h2, _⟩ := fns_b f (plB_mem hpl)
  have e1 : fn' = fn := Option.some.inj (h1.symm.trans hfn)
  rw [← e1]; exact h2
 have hent : Frame.enter Th.prog f args .normal = Frame.enter Try.prog f args .normal := by
  unfold Frame.enter
  rw [hfq, hfn]
 let Fin : Cfg → Prop := fun c => c.cs = [] ∧ c.fr.mode = .returning ∧ c.fr.fn = f ∧ c.fr.tmps.getD r undef = .bool true
 have hrel : Rel (fun _ => False) W W := ⟨rfl, fun _ h => h.elim, fun _ _ h => h.elim, fun _ h => h.elim, OsLater.refl _, rfl, fun b hb => ⟨rfl, (hZ b hb).1, fun h => h, (hZ b hb).2⟩⟩
 have hTr : Tr Th.prog Fin ⟨Frame.enter Th.prog f args .normal, [], W⟩ := by
  have G3 : (Lk.solo Th.prog (fun g => plB g || g == 45) hoB (fun _ => false) diB zrB).Good := Li_good
  refine bar (A := fun _ => False) G3 ⟨(enter_ok G3 (Q := Th.prog) (g := f) (by simp [Lk.solo, hpl]) rfl (fun t v e => by have := hA t v e; rw [dLh] at this; exact this) (fun t _ => hho t)).1, .inl rfl, by simp, hrel, trivial⟩ (fun c T h => h) (fun c h => h.2.1) fun T => ?_
  obtain ⟨e, w', fr, rfl, hc, h1, h2, h3, h4, fn', h5, h6⟩ := lone_ T [c0]
  obtain ⟨N, hN⟩ := hc
  refine ⟨N, ⟨fr, [], w'⟩, hN, rfl, h2, h1, ?_⟩
  rw [h1, hfq] at h5
  cases h5
  have := Sem.runT_fst Th.prog (results fn fr.tmps) w' #[]
  rw [results_one hres, h6] at this
  simpa using this
 have hcom : Com Lh (fun _ => False) (fun _ => False) ⟨Frame.enter Th.prog f args .normal, [], W⟩ #[G (Frame.enter Try.prog f args .normal) []] W #[] (fun _ => 0) := by
  refine ⟨by rw [hent]; rfl, ⟨fun i g hi hg => ?_, fun j _ => rfl⟩, ⟨past_nil.clean, fun i a ha hm => (past_nil.known i a ha hm).imp id fun h => h.1.elim, past_nil.over, past_nil.hears, fun op hop => by simp at hop⟩, (enter_ok Lh_good (Q := Th.prog) hpl (hfq.trans hfn.symm) hA (fun t _ => hho t)).1, .inl rfl, by simp, hrel, fun _ h => h.elim, trivial⟩
  rw [Array.getElem?_eq_none (by simp; omega)] at hg
  cases hg
 have hkept : Kept W (fun _ => False) (fun _ => False) W := ⟨rfl, OsLater.refl _, rfl, Nat.le_refl _, fun _ _ _ => rfl, fun _ _ h => h⟩
 have hf : ∀ c, Fin c → c.cs = [] := fun c h => h.1
 have hTr' : Tr Lh.P' Fin ⟨Frame.enter Th.prog f args .normal, [], W⟩ := by rw [Lh_P']; exact hTr
 show Lk.Ends Lh.P _ _ _
 refine beside_lone (L := Lh) (Post := fun v w' => v = .bool true ∧ Below W.heap.size W { w' with os := W.os } ∧ OsLater W.os w'.os) (W := W) (A0 := fun _ => False) Lh_good (fun g hg => ?_) ?_ hTr' ⟨Frame.enter Th.prog f args .normal, [], W⟩ .refl (fun _ => False) (fun _ => False) #[G (Frame.enter Try.prog f args .normal) []] W none #[] (fun _ => 0) hcom hkept
 ·have : g = 45 := by simpa [Lh] using hg
  subst this
  exact phase45 hf
 ·rintro S A ⟨fr, cs, cw⟩ gs w t q ⟨h1, h2, h3, h4⟩ hc hk
  simp only at h1 h2 h3 h4
  subst h1
  refine ⟨.bool true, ?_, rfl, ⟨rfl, hk.tape, hk.output, hk.size, fun b hb => hk.old b hb fun h => hk.sub b hb h⟩, hk.os⟩
  have hd : fr.defers = [] := hc.fr.defers
  have hkd : fr.kind = .normal := hc.fr.kind
  have hfn' : Lh.P.funcs[fr.fn]? = some fn := by rw [h3]; exact hfn
  have hini' : Lh.P.inits.idxOf? fr.fn = none := by rw [h3]; exact hini
  have hr := results_one (tmps := fr.tmps) hres Lh.P w
  rw [h4] at hr
  have hq := Sem.runT_fst Lh.P (results fn fr.tmps) w #[]
  rw [hr] at hq
  have he : Sem.events Lh.P (results fn fr.tmps) w #[] = #[] := by unfold Sem.events; rw [hr]
  simp [stepG, mkG, h2, unwind, hd, hfn', ← hq, he, doReturn, hkd, hini', seen, GStep.after]
end Go.Proofs.Ytnikfjfcbpeieaa.Hk
end
