/- The plans for the laws of bpdu: which functions are plain code; that of sum turned. Written by mkya.py. -/
/- The turned sum, alone, seen from outside: whoever comes through it was handed a slice of bytes; it hands back their sum, and allots five blocks. Written by mkyb.py. -/
/- The turned sum, alone: its walk. Written by mkyb.py. -/
/- A call of bpdu.sum in company is, to whoever called, the turned one alone. Written by mkyb.py. -/
/- From the turned program, run alone, to the program itself: what the turned one answers alone on every tape, the program answers, whatever its goroutines do. -/
import Derived.Test.YtnikfjfcbpeieaaML
import Derived.Test.YtnikfjfcbpeieaaMTQq
import Derived.KernelRfl
import Derived.Test.YtnikfjfcbpeieaaMXk
import Derived.Laws.Panics
import Derived.Conc.LeavingOf
import Derived.Below
section
namespace Go.Proofs.Ytnikfjfcbpeieaa.Lk
open Go Go.Conc
set_option linter.unusedVariables false
def plL : List Nat := [10, 14, 15, 17, 18, 20, 21, 24, 25, 26, 27, 28, 32, 33, 35, 36, 37, 39, 40, 41, 54, 55, 56, 57, 58, 59, 60, 61, 62, 69, 80, 81, 82, 83, 84]
def plB (g : Nat) : Bool := plL.contains g
def hoB (f t : Nat) : Option Nat := if f == 41 && ([5, 24, 25, 27, 29, 31, 34].contains t) then some 69 else none
noncomputable def Lb : Plan := ⟨Try.prog, Tq.F, plB, fun g => g == 68, hoB, fun g => g == 69, fun _ => 1⟩
noncomputable def Lc : Plan := solo Tq.prog (fun g => plB g || g == 68) hoB (fun g => g == 69)
theorem plB_mem {g : Nat} (h : plB g = true) : g ∈ plL := by simpa [plB] using h
theorem nq10 : (Try.f10.name == "runtime.NumGoroutine") = false := by kernel_rfl
noncomputable def bd10 : Code := Try.f10.body.getD .skip
theorem bq10 : Try.f10.body = some bd10 := rfl
theorem cb10 : Lb.codeB 10 bd10 = true := by kernel_rfl
theorem cc10 : Lc.codeB 10 bd10 = true := by kernel_rfl
theorem nq14 : (Try.f14.name == "runtime.NumGoroutine") = false := by kernel_rfl
noncomputable def bd14 : Code := Try.f14.body.getD .skip
theorem bq14 : Try.f14.body = some bd14 := rfl
theorem cb14 : Lb.codeB 14 bd14 = true := by kernel_rfl
theorem cc14 : Lc.codeB 14 bd14 = true := by kernel_rfl
theorem nq15 : (Try.f15.name == "runtime.NumGoroutine") = false := by kernel_rfl
noncomputable def bd15 : Code := Try.f15.body.getD .skip
theorem bq15 : Try.f15.body = some bd15 := rfl
theorem cb15 : Lb.codeB 15 bd15 = true := by kernel_rfl
theorem cc15 : Lc.codeB 15 bd15 = true := by kernel_rfl
theorem nq17 : (Try.f17.name == "runtime.NumGoroutine") = false := by kernel_rfl
noncomputable def bd17 : Code := Try.f17.body.getD .skip
theorem bq17 : Try.f17.body = some bd17 := rfl
theorem cb17 : Lb.codeB 17 bd17 = true := by kernel_rfl
theorem cc17 : Lc.codeB 17 bd17 = true := by kernel_rfl
theorem nq18 : (Try.f18.name == "runtime.NumGoroutine") = false := by kernel_rfl
noncomputable def bd18 : Code := Try.f18.body.getD .skip
theorem bq18 : Try.f18.body = some bd18 := rfl
theorem cb18 : Lb.codeB 18 bd18 = true := by kernel_rfl
theorem cc18 : Lc.codeB 18 bd18 = true := by kernel_rfl
theorem nq20 : (Try.f20.name == "runtime.NumGoroutine") = false := by kernel_rfl
noncomputable def bd20 : Code := Try.f20.body.getD .skip
theorem bq20 : Try.f20.body = some bd20 := rfl
theorem cb20 : Lb.codeB 20 bd20 = true := by kernel_rfl
theorem cc20 : Lc.codeB 20 bd20 = true := by kernel_rfl
theorem nq21 : (Try.f21.name == "runtime.NumGoroutine") = false := by kernel_rfl
noncomputable def bd21 : Code := Try.f21.body.getD .skip
theorem bq21 : Try.f21.body = some bd21 := rfl
theorem cb21 : Lb.codeB 21 bd21 = true := by kernel_rfl
theorem cc21 : Lc.codeB 21 bd21 = true := by kernel_rfl
theorem nq24 : (Try.f24.name == "runtime.NumGoroutine") = false := by kernel_rfl
noncomputable def bd24 : Code := Try.f24.body.getD .skip
theorem bq24 : Try.f24.body = some bd24 := rfl
theorem cb24 : Lb.codeB 24 bd24 = true := by kernel_rfl
theorem cc24 : Lc.codeB 24 bd24 = true := by kernel_rfl
theorem nq25 : (Try.f25.name == "runtime.NumGoroutine") = false := by kernel_rfl
noncomputable def bd25 : Code := Try.f25.body.getD .skip
theorem bq25 : Try.f25.body = some bd25 := rfl
theorem cb25 : Lb.codeB 25 bd25 = true := by kernel_rfl
theorem cc25 : Lc.codeB 25 bd25 = true := by kernel_rfl
theorem nq26 : (Try.f26.name == "runtime.NumGoroutine") = false := by kernel_rfl
noncomputable def bd26 : Code := Try.f26.body.getD .skip
theorem bq26 : Try.f26.body = some bd26 := rfl
theorem cb26 : Lb.codeB 26 bd26 = true := by kernel_rfl
theorem cc26 : Lc.codeB 26 bd26 = true := by kernel_rfl
theorem nq27 : (Try.f27.name == "runtime.NumGoroutine") = false := by kernel_rfl
noncomputable def bd27 : Code := Try.f27.body.getD .skip
theorem bq27 : Try.f27.body = some bd27 := rfl
theorem cb27 : Lb.codeB 27 bd27 = true := by kernel_rfl
theorem cc27 : Lc.codeB 27 bd27 = true := by kernel_rfl
theorem nq28 : (Try.f28.name == "runtime.NumGoroutine") = false := by kernel_rfl
noncomputable def bd28 : Code := Try.f28.body.getD .skip
theorem bq28 : Try.f28.body = some bd28 := rfl
theorem cb28 : Lb.codeB 28 bd28 = true := by kernel_rfl
theorem cc28 : Lc.codeB 28 bd28 = true := by kernel_rfl
theorem nq32 : (Try.f32.name == "runtime.NumGoroutine") = false := by kernel_rfl
noncomputable def bd32 : Code := Try.f32.body.getD .skip
theorem bq32 : Try.f32.body = some bd32 := rfl
theorem cb32 : Lb.codeB 32 bd32 = true := by kernel_rfl
theorem cc32 : Lc.codeB 32 bd32 = true := by kernel_rfl
theorem nq33 : (Try.f33.name == "runtime.NumGoroutine") = false := by kernel_rfl
noncomputable def bd33 : Code := Try.f33.body.getD .skip
theorem bq33 : Try.f33.body = some bd33 := rfl
theorem cb33 : Lb.codeB 33 bd33 = true := by kernel_rfl
theorem cc33 : Lc.codeB 33 bd33 = true := by kernel_rfl
theorem nq35 : (Try.f35.name == "runtime.NumGoroutine") = false := by kernel_rfl
noncomputable def bd35 : Code := Try.f35.body.getD .skip
theorem bq35 : Try.f35.body = some bd35 := rfl
theorem cb35 : Lb.codeB 35 bd35 = true := by kernel_rfl
theorem cc35 : Lc.codeB 35 bd35 = true := by kernel_rfl
theorem nq36 : (Try.f36.name == "runtime.NumGoroutine") = false := by kernel_rfl
noncomputable def bd36 : Code := Try.f36.body.getD .skip
theorem bq36 : Try.f36.body = some bd36 := rfl
theorem cb36 : Lb.codeB 36 bd36 = true := by kernel_rfl
theorem cc36 : Lc.codeB 36 bd36 = true := by kernel_rfl
theorem nq37 : (Try.f37.name == "runtime.NumGoroutine") = false := by kernel_rfl
noncomputable def bd37 : Code := Try.f37.body.getD .skip
theorem bq37 : Try.f37.body = some bd37 := rfl
theorem cb37 : Lb.codeB 37 bd37 = true := by kernel_rfl
theorem cc37 : Lc.codeB 37 bd37 = true := by kernel_rfl
theorem nq39 : (Try.f39.name == "runtime.NumGoroutine") = false := by kernel_rfl
noncomputable def bd39 : Code := Try.f39.body.getD .skip
theorem bq39 : Try.f39.body = some bd39 := rfl
theorem cb39 : Lb.codeB 39 bd39 = true := by kernel_rfl
theorem cc39 : Lc.codeB 39 bd39 = true := by kernel_rfl
theorem nq40 : (Try.f40.name == "runtime.NumGoroutine") = false := by kernel_rfl
noncomputable def bd40 : Code := Try.f40.body.getD .skip
theorem bq40 : Try.f40.body = some bd40 := rfl
theorem cb40 : Lb.codeB 40 bd40 = true := by kernel_rfl
theorem cc40 : Lc.codeB 40 bd40 = true := by kernel_rfl
theorem nq41 : (Try.f41.name == "runtime.NumGoroutine") = false := by kernel_rfl
noncomputable def bd41 : Code := Try.f41.body.getD .skip
theorem bq41 : Try.f41.body = some bd41 := rfl
theorem cb41 : Lb.codeB 41 bd41 = true := by kernel_rfl
theorem cc41 : Lc.codeB 41 bd41 = true := by kernel_rfl
theorem nq54 : (Try.f54.name == "runtime.NumGoroutine") = false := by kernel_rfl
noncomputable def bd54 : Code := Try.f54.body.getD .skip
theorem bq54 : Try.f54.body = some bd54 := rfl
theorem cb54 : Lb.codeB 54 bd54 = true := by kernel_rfl
theorem cc54 : Lc.codeB 54 bd54 = true := by kernel_rfl
theorem nq55 : (Try.f55.name == "runtime.NumGoroutine") = false := by kernel_rfl
noncomputable def bd55 : Code := Try.f55.body.getD .skip
theorem bq55 : Try.f55.body = some bd55 := rfl
theorem cb55 : Lb.codeB 55 bd55 = true := by kernel_rfl
theorem cc55 : Lc.codeB 55 bd55 = true := by kernel_rfl
theorem nq56 : (Try.f56.name == "runtime.NumGoroutine") = false := by kernel_rfl
noncomputable def bd56 : Code := Try.f56.body.getD .skip
theorem bq56 : Try.f56.body = some bd56 := rfl
theorem cb56 : Lb.codeB 56 bd56 = true := by kernel_rfl
theorem cc56 : Lc.codeB 56 bd56 = true := by kernel_rfl
theorem nq57 : (Try.f57.name == "runtime.NumGoroutine") = false := by kernel_rfl
noncomputable def bd57 : Code := Try.f57.body.getD .skip
theorem bq57 : Try.f57.body = some bd57 := rfl
theorem cb57 : Lb.codeB 57 bd57 = true := by kernel_rfl
theorem cc57 : Lc.codeB 57 bd57 = true := by kernel_rfl
theorem nq58 : (Try.f58.name == "runtime.NumGoroutine") = false := by kernel_rfl
noncomputable def bd58 : Code := Try.f58.body.getD .skip
theorem bq58 : Try.f58.body = some bd58 := rfl
theorem cb58 : Lb.codeB 58 bd58 = true := by kernel_rfl
theorem cc58 : Lc.codeB 58 bd58 = true := by kernel_rfl
theorem nq59 : (Try.f59.name == "runtime.NumGoroutine") = false := by kernel_rfl
noncomputable def bd59 : Code := Try.f59.body.getD .skip
theorem bq59 : Try.f59.body = some bd59 := rfl
theorem cb59 : Lb.codeB 59 bd59 = true := by kernel_rfl
theorem cc59 : Lc.codeB 59 bd59 = true := by kernel_rfl
theorem nq60 : (Try.f60.name == "runtime.NumGoroutine") = false := by kernel_rfl
noncomputable def bd60 : Code := Try.f60.body.getD .skip
theorem bq60 : Try.f60.body = some bd60 := rfl
theorem cb60 : Lb.codeB 60 bd60 = true := by kernel_rfl
theorem cc60 : Lc.codeB 60 bd60 = true := by kernel_rfl
theorem nq61 : (Try.f61.name == "runtime.NumGoroutine") = false := by kernel_rfl
noncomputable def bd61 : Code := Try.f61.body.getD .skip
theorem bq61 : Try.f61.body = some bd61 := rfl
theorem cb61 : Lb.codeB 61 bd61 = true := by kernel_rfl
theorem cc61 : Lc.codeB 61 bd61 = true := by kernel_rfl
theorem nq62 : (Try.f62.name == "runtime.NumGoroutine") = false := by kernel_rfl
noncomputable def bd62 : Code := Try.f62.body.getD .skip
theorem bq62 : Try.f62.body = some bd62 := rfl
theorem cb62 : Lb.codeB 62 bd62 = true := by kernel_rfl
theorem cc62 : Lc.codeB 62 bd62 = true := by kernel_rfl
theorem nq69 : (Try.f69.name == "runtime.NumGoroutine") = false := by kernel_rfl
noncomputable def bd69 : Code := Try.f69.body.getD .skip
theorem bq69 : Try.f69.body = some bd69 := rfl
theorem cb69 : Lb.codeB 69 bd69 = true := by kernel_rfl
theorem cc69 : Lc.codeB 69 bd69 = true := by kernel_rfl
theorem nq80 : (Try.f80.name == "runtime.NumGoroutine") = false := by kernel_rfl
noncomputable def bd80 : Code := Try.f80.body.getD .skip
theorem bq80 : Try.f80.body = some bd80 := rfl
theorem cb80 : Lb.codeB 80 bd80 = true := by kernel_rfl
theorem cc80 : Lc.codeB 80 bd80 = true := by kernel_rfl
theorem nq81 : (Try.f81.name == "runtime.NumGoroutine") = false := by kernel_rfl
noncomputable def bd81 : Code := Try.f81.body.getD .skip
theorem bq81 : Try.f81.body = some bd81 := rfl
theorem cb81 : Lb.codeB 81 bd81 = true := by kernel_rfl
theorem cc81 : Lc.codeB 81 bd81 = true := by kernel_rfl
theorem nq82 : (Try.f82.name == "runtime.NumGoroutine") = false := by kernel_rfl
noncomputable def bd82 : Code := Try.f82.body.getD .skip
theorem bq82 : Try.f82.body = some bd82 := rfl
theorem cb82 : Lb.codeB 82 bd82 = true := by kernel_rfl
theorem cc82 : Lc.codeB 82 bd82 = true := by kernel_rfl
theorem nq83 : (Try.f83.name == "runtime.NumGoroutine") = false := by kernel_rfl
noncomputable def bd83 : Code := Try.f83.body.getD .skip
theorem bq83 : Try.f83.body = some bd83 := rfl
theorem cb83 : Lb.codeB 83 bd83 = true := by kernel_rfl
theorem cc83 : Lc.codeB 83 bd83 = true := by kernel_rfl
theorem nq84 : (Try.f84.name == "runtime.NumGoroutine") = false := by kernel_rfl
noncomputable def bd84 : Code := Try.f84.body.getD .skip
theorem bq84 : Try.f84.body = some bd84 := rfl
theorem cb84 : Lb.codeB 84 bd84 = true := by kernel_rfl
theorem cc84 : Lc.codeB 84 bd84 = true := by kernel_rfl
theorem nq68 : (Try.f68.name == "runtime.NumGoroutine") = false := by kernel_rfl
theorem nr68 : (Tq.f68.name == "runtime.NumGoroutine") = false := nq68
theorem cc68 : Lc.codeB 68 Tq.c68 = true := by kernel_rfl
theorem fns_b : ∀ g, g ∈ plL → ∃ fn, Try.prog.funcs[g]? = some fn ∧ Tq.prog.funcs[g]? = some fn ∧ (fn.name == "runtime.NumGoroutine") = false ∧ (∃ c, fn.body = some c ∧ Lb.codeB g c = true ∧ Lc.codeB g c = true) := by
 intro g hg
 simp only [plL, List.mem_cons, List.not_mem_nil, or_false] at hg
 rcases hg with rfl | rfl | rfl | rfl | rfl | rfl | rfl | rfl | rfl | rfl | rfl | rfl | rfl | rfl | rfl | rfl | rfl | rfl | rfl | rfl | rfl | rfl | rfl | rfl | rfl | rfl | rfl | rfl | rfl | rfl | rfl | rfl | rfl | rfl | rfl
 ·exact ⟨Try.f10, Try.func10, Tq.func10, nq10, bd10, bq10, cb10, cc10⟩
 ·exact ⟨Try.f14, Try.func14, Tq.func14, nq14, bd14, bq14, cb14, cc14⟩
 ·exact ⟨Try.f15, Try.func15, Tq.func15, nq15, bd15, bq15, cb15, cc15⟩
 ·exact ⟨Try.f17, Try.func17, Tq.func17, nq17, bd17, bq17, cb17, cc17⟩
 ·exact ⟨Try.f18, Try.func18, Tq.func18, nq18, bd18, bq18, cb18, cc18⟩
 ·exact ⟨Try.f20, Try.func20, Tq.func20, nq20, bd20, bq20, cb20, cc20⟩
 ·exact ⟨Try.f21, Try.func21, Tq.func21, nq21, bd21, bq21, cb21, cc21⟩
 ·exact ⟨Try.f24, Try.func24, Tq.func24, nq24, bd24, bq24, cb24, cc24⟩
 ·exact ⟨Try.f25, Try.func25, Tq.func25, nq25, bd25, bq25, cb25, cc25⟩
 ·exact ⟨Try.f26, Try.func26, Tq.func26, nq26, bd26, bq26, cb26, cc26⟩
 ·exact ⟨Try.f27, Try.func27, Tq.func27, nq27, bd27, bq27, cb27, cc27⟩
 ·exact ⟨Try.f28, Try.func28, Tq.func28, nq28, bd28, bq28, cb28, cc28⟩
 ·exact ⟨Try.f32, Try.func32, Tq.func32, nq32, bd32, bq32, cb32, cc32⟩
 ·exact ⟨Try.f33, Try.func33, Tq.func33, nq33, bd33, bq33, cb33, cc33⟩
 ·exact ⟨Try.f35, Try.func35, Tq.func35, nq35, bd35, bq35, cb35, cc35⟩
 ·exact ⟨Try.f36, Try.func36, Tq.func36, nq36, bd36, bq36, cb36, cc36⟩
 ·exact ⟨Try.f37, Try.func37, Tq.func37, nq37, bd37, bq37, cb37, cc37⟩
 ·exact ⟨Try.f39, Try.func39, Tq.func39, nq39, bd39, bq39, cb39, cc39⟩
 ·exact ⟨Try.f40, Try.func40, Tq.func40, nq40, bd40, bq40, cb40, cc40⟩
 ·exact ⟨Try.f41, Try.func41, Tq.func41, nq41, bd41, bq41, cb41, cc41⟩
 ·exact ⟨Try.f54, Try.func54, Tq.func54, nq54, bd54, bq54, cb54, cc54⟩
 ·exact ⟨Try.f55, Try.func55, Tq.func55, nq55, bd55, bq55, cb55, cc55⟩
 ·exact ⟨Try.f56, Try.func56, Tq.func56, nq56, bd56, bq56, cb56, cc56⟩
 ·exact ⟨Try.f57, Try.func57, Tq.func57, nq57, bd57, bq57, cb57, cc57⟩
 ·exact ⟨Try.f58, Try.func58, Tq.func58, nq58, bd58, bq58, cb58, cc58⟩
 ·exact ⟨Try.f59, Try.func59, Tq.func59, nq59, bd59, bq59, cb59, cc59⟩
 ·exact ⟨Try.f60, Try.func60, Tq.func60, nq60, bd60, bq60, cb60, cc60⟩
 ·exact ⟨Try.f61, Try.func61, Tq.func61, nq61, bd61, bq61, cb61, cc61⟩
 ·exact ⟨Try.f62, Try.func62, Tq.func62, nq62, bd62, bq62, cb62, cc62⟩
 ·exact ⟨Try.f69, Try.func69, Tq.func69, nq69, bd69, bq69, cb69, cc69⟩
 ·exact ⟨Try.f80, Try.func80, Tq.func80, nq80, bd80, bq80, cb80, cc80⟩
 ·exact ⟨Try.f81, Try.func81, Tq.func81, nq81, bd81, bq81, cb81, cc81⟩
 ·exact ⟨Try.f82, Try.func82, Tq.func82, nq82, bd82, bq82, cb82, cc82⟩
 ·exact ⟨Try.f83, Try.func83, Tq.func83, nq83, bd83, bq83, cb83, cc83⟩
 ·exact ⟨Try.f84, Try.func84, Tq.func84, nq84, bd84, bq84, cb84, cc84⟩
theorem Lb_good : Lb.Good := by
 refine ⟨fun g hg => ?_, fun g hg => ?_, fun g fn c hg hf hc => ?_, fun g hg t => ?_, fun g hg => ?_⟩
 ·cases hp : plB g with
  | true =>
   obtain ⟨fn, h1, h2, h3, c, h4, _⟩ := fns_b g (plB_mem hp)
   exact ⟨fn, fn, h1, h2, h3, h3, by rw [h4]; rfl, by rw [h4]; rfl, rfl⟩
  | false =>
   have : g = 68 := by simpa [Plan.known, Lb, hp] using hg
   subst this
   refine ⟨Try.f68, Tq.f68, Try.func68, Tq.func68, nq68, nr68, rfl, rfl, ?_⟩
   show Tq.f68.norace = Try.f68.norace
   unfold Tq.f68
   rfl
 ·obtain ⟨fn, h1, h2, _⟩ := fns_b g (plB_mem hg)
  exact h2.trans h1.symm
 ·obtain ⟨fn', h1, h2, h3, c', h4, h5, h6⟩ := fns_b g (plB_mem hg)
  have e1 : fn' = fn := Option.some.inj (h1.symm.trans hf)
  rw [← e1, h4] at hc
  cases hc
  exact h5
 ·have : g = 69 := by simpa [Lb] using hg
  subst this
  rfl
 ·have : g = 68 := by simpa [Lb] using hg
  subst this
  rfl
theorem solo_same (P : Program) (pl : Nat → Bool) (ho : Nat → Nat → Option Nat) (ba : Nat → Bool) (g : Nat) : (solo P pl ho ba).F[g]? = (solo P pl ho ba).P.funcs[g]? := rfl
theorem Lc_P : Lc.P = Tq.prog := by unfold Lc solo; rfl
theorem solo_F (P : Program) (pl : Nat → Bool) (ho : Nat → Nat → Option Nat) (ba : Nat → Bool) : (solo P pl ho ba).F = P.funcs := rfl
theorem Lc_F : Lc.F = Tq.prog.funcs := solo_F _ _ _ _
theorem Lc_good : Lc.Good := by
 have key : ∀ g, (plB g || g == 68) = true → ∃ fn, Tq.prog.funcs[g]? = some fn ∧ (fn.name == "runtime.NumGoroutine") = false ∧ ∃ c, fn.body = some c ∧ Lc.codeB g c = true := by
  intro g hg
  cases hp : plB g with
  | true =>
   obtain ⟨fn, h1, h2, h3, c, h4, _, h6⟩ := fns_b g (plB_mem hp)
   exact ⟨fn, h2, h3, c, h4, h6⟩
  | false =>
   have : g = 68 := by simpa [hp] using hg
   subst this
   exact ⟨Tq.f68, Tq.func68, nr68, Tq.c68, (by unfold Tq.f68; rfl), cc68⟩
 refine ⟨fun g hg => ?_, fun g hg => (by rw [Lc_P, Lc_F]), fun g fn c hg hf hc => ?_, fun g hg t => ?_, fun g hg => ?_⟩
 ·obtain ⟨fn, h1, h2, c, h3, _⟩ := key g (by simpa [Plan.known, Lc, solo] using hg)
  exact ⟨fn, fn, by rw [Lc_P]; exact h1, by rw [Lc_F]; exact h1, h2, h2, by rw [h3]; rfl, by rw [h3]; rfl, rfl⟩
 ·obtain ⟨fn', h1, h2, c', h3, h4⟩ := key g hg
  rw [Lc_P] at hf
  have e1 : fn' = fn := Option.some.inj (h1.symm.trans hf)
  rw [← e1, h3] at hc
  cases hc
  exact h4
 ·have : g = 69 := by simpa [Lc, solo] using hg
  subst this
  rfl
 ·cases hg
theorem Lb_P' : Lb.P' = Tq.prog := by kernel_rfl
end Go.Proofs.Ytnikfjfcbpeieaa.Lk
end
section
namespace Go.Proofs.Ytnikfjfcbpeieaa.Lk
open Go Go.Conc Go.RowKit
open Go.ConcR.Gen
set_option linter.unusedVariables false
set_option linter.unusedSimpArgs false
theorem arr16 (T : Array Value) (h : T.size = 16) : ∃ v0 v1 v2 v3 v4 v5 v6 v7 v8 v9 v10 v11 v12 v13 v14 v15 : Value, T = #[v0, v1, v2, v3, v4, v5, v6, v7, v8, v9, v10, v11, v12, v13, v14, v15] := by
 obtain ⟨l⟩ := T
 simp only [List.size_toArray] at h
 rcases l with _ | ⟨v0, l⟩
 ·simp at h
 rcases l with _ | ⟨v1, l⟩
 ·simp at h
 rcases l with _ | ⟨v2, l⟩
 ·simp at h
 rcases l with _ | ⟨v3, l⟩
 ·simp at h
 rcases l with _ | ⟨v4, l⟩
 ·simp at h
 rcases l with _ | ⟨v5, l⟩
 ·simp at h
 rcases l with _ | ⟨v6, l⟩
 ·simp at h
 rcases l with _ | ⟨v7, l⟩
 ·simp at h
 rcases l with _ | ⟨v8, l⟩
 ·simp at h
 rcases l with _ | ⟨v9, l⟩
 ·simp at h
 rcases l with _ | ⟨v10, l⟩
 ·simp at h
 rcases l with _ | ⟨v11, l⟩
 ·simp at h
 rcases l with _ | ⟨v12, l⟩
 ·simp at h
 rcases l with _ | ⟨v13, l⟩
 ·simp at h
 rcases l with _ | ⟨v14, l⟩
 ·simp at h
 rcases l with _ | ⟨v15, l⟩
 ·simp at h
 rcases l with _ | ⟨x, l⟩
 ·exact ⟨v0, v1, v2, v3, v4, v5, v6, v7, v8, v9, v10, v11, v12, v13, v14, v15, rfl⟩
 ·simp at h
def LT (Fin Goal : Cfg → Prop) (c : Cfg) : Prop := Tr Tq.prog Fin c → ∃ c2, LReach Tq.prog Fin c c2 ∧ Goal c2
section
variable {Fin Goal : Cfg → Prop} (hf : ∀ c, Fin c → c.cs = [])
theorem LT.goal {c : Cfg} (h : Goal c) : LT Fin Goal c := fun _ => ⟨c, .refl, h⟩
theorem LT.mono {Goal' : Cfg → Prop} {c : Cfg} (h : LT Fin Goal c) (k : ∀ c, Goal c → Goal' c) : LT Fin Goal' c := fun hT => let ⟨c2, r, g⟩ := h hT; ⟨c2, r, k c2 g⟩
include hf
theorem LT.step {c : Cfg} (hcs : c.cs ≠ []) (h : ∀ g' w' es, stepG Tq.prog true c.g c.w = .go g' w' es → (g'.frame.mode = .run ∨ g'.frame.mode = .returning) → ∃ c1 : Cfg, g' = c1.g ∧ w' = c1.w ∧ LT Fin Goal c1) : LT Fin Goal c := by
 intro hT
 cases hT with
 | fin hfin => exact absurd (hf c hfin) hcs
 | step next hn hs hT =>
  obtain ⟨es, e, hm⟩ := hs c.w.tape
  obtain ⟨c1, e1, e2, k⟩ := h _ _ _ (show stepG Tq.prog true c.g c.w = _ from e) hm
  have e3 : next c.w.tape = c1 := by
   obtain ⟨x1, x2⟩ := g_inj e1
   generalize next c.w.tape = y at x1 x2 e2
   cases y; cases c1; simp_all
  obtain ⟨c2, r, g⟩ := k (e3 ▸ hT c.w.tape)
  exact ⟨c2, .head hn (hs c.w.tape) (e3 ▸ r), g⟩
variable {b : Frame} {a : Act} {k : List Item} {f0 : Frame} {cs : List Frame} {w : World}
theorem LT.go {b1 : Frame} {w1 : World} {es : Array Event} (h : stepG Tq.prog true (G (b.at a k) (f0 :: cs ++ [c0])) w = .go (G b1 (f0 :: cs ++ [c0])) w1 es) (kk : LT Fin Goal ⟨b1, f0 :: cs, w1⟩) : LT Fin Goal ⟨b.at a k, f0 :: cs, w⟩ :=
 LT.step hf (by simp) fun g' w' es' e _ => by
  have e' : stepG Tq.prog true (G (b.at a k) (f0 :: cs ++ [c0])) w = .go g' w' es' := e
  rw [h] at e'
  injection e' with e1 e2
  exact ⟨⟨b1, f0 :: cs, w1⟩, e1.symm, e2.symm, kk⟩
theorem LT.skip (h : LT Fin Goal ⟨b.at a k, f0 :: cs, w⟩) : LT Fin Goal ⟨b.at a (.code .skip :: k), f0 :: cs, w⟩ := LT.go hf stepG_skip h
theorem LT.inBlock {id : Nat} (h : LT Fin Goal ⟨b.at a k, f0 :: cs, w⟩) : LT Fin Goal ⟨b.at a (.inBlock id :: k), f0 :: cs, w⟩ := LT.go hf stepG_inBlock h
theorem LT.seq {x y : Code} (h : LT Fin Goal ⟨b.at a (.code x :: .code y :: k), f0 :: cs, w⟩) : LT Fin Goal ⟨b.at a (.code (.seq x y) :: k), f0 :: cs, w⟩ := LT.go hf stepG_seq h
theorem LT.cond {c : Operand} {x y : Code} (t : Bool) (e : a.eval c = .bool t) (h : LT Fin Goal ⟨b.at a (.code (if t then x else y) :: k), f0 :: cs, w⟩) : LT Fin Goal ⟨b.at a (.code (.cond c x y) :: k), f0 :: cs, w⟩ := LT.go hf (stepG_cond e) h
theorem LT.block {id : Nat} {c : Code} (h : LT Fin Goal ⟨b.at a (.code c :: .inBlock id :: k), f0 :: cs, w⟩) : LT Fin Goal ⟨b.at a (.code (.block id c) :: k), f0 :: cs, w⟩ := LT.go hf stepG_block h
theorem LT.loop {c : Code} (h : LT Fin Goal ⟨b.at a (.code c :: .inLoop c :: k), f0 :: cs, w⟩) : LT Fin Goal ⟨b.at a (.code (.loop c) :: k), f0 :: cs, w⟩ := LT.go hf stepG_loop h
theorem LT.inLoop {c : Code} (h : LT Fin Goal ⟨b.at a (.code c :: .inLoop c :: k), f0 :: cs, w⟩) : LT Fin Goal ⟨b.at a (.inLoop c :: k), f0 :: cs, w⟩ := LT.go hf stepG_inLoop h
theorem LT.exit {id : Nat} {k' : List Item} (e : exitTo id k = some k') (h : LT Fin Goal ⟨b.at a k', f0 :: cs, w⟩) : LT Fin Goal ⟨b.at a (.code (.exit id) :: k), f0 :: cs, w⟩ := LT.go hf (stepG_exit e) h
theorem LT.region {id : Nat} {ops : Array Oper} (h : LT Fin Goal ⟨b.at a (.inRegion ops (List.range ops.size) :: k), f0 :: cs, w⟩) : LT Fin Goal ⟨b.at a (.code (.region id ops false) :: k), f0 :: cs, w⟩ := LT.go hf stepG_region h
theorem LT.regionEnd {ops : Array Oper} (h : LT Fin Goal ⟨b.at a k, f0 :: cs, w⟩) : LT Fin Goal ⟨b.at a (.inRegion ops [] :: k), f0 :: cs, w⟩ := LT.go hf stepG_region_end h
theorem LT.ret (h : LT Fin Goal ⟨{ b.at a (.code .ret :: k) with mode := .returning }, f0 :: cs, w⟩) : LT Fin Goal ⟨b.at a (.code .ret :: k), f0 :: cs, w⟩ := LT.go hf stepG_ret' h
variable {ops : Array Oper} {i : Nat} {rest : List Nat} {o : Oper}
theorem LT.val {v : Value} {w1 : World} (ho : ops[i]? = some o) (hw : Region.wanted o (yielded ops a.tmps) = true) (hk : b.kind ≠ .early)
  (hr : (execOp a.eval o).run Tq.prog w = .ok (.value v) w1) (h : LT Fin Goal ⟨b.at (a.put o.dst v) (.inRegion ops rest :: k), f0 :: cs, w1⟩) : LT Fin Goal ⟨b.at a (.inRegion ops (i :: rest) :: k), f0 :: cs, w⟩ := LT.go hf (stepG_value ho hw hk hr) h
theorem LT.valw {v : Value} (ho : ops[i]? = some o) (hw : Region.wanted o (yielded ops a.tmps) = true) (hk : b.kind ≠ .early)
  (hr : (execOp a.eval o).run Tq.prog w = .ok (.value v) w) (h : LT Fin Goal ⟨b.at (a.put o.dst v) (.inRegion ops rest :: k), f0 :: cs, w⟩) : LT Fin Goal ⟨b.at a (.inRegion ops (i :: rest) :: k), f0 :: cs, w⟩ := LT.val hf ho hw hk hr h
theorem LT.op {A : Nat → Prop} (ho : ops[i]? = some o) (hw : Region.wanted o (yielded ops a.tmps) = true) (hk : b.kind = .normal) (hob : Lc.opB 68 o = true) (hA : OkVs A a.tmps) (hrel : Rel A w w)
  (h : ∀ nx w1, (execOp a.eval o).run Tq.prog w = .ok nx w1 → ∃ v, nx = .value v ∧ LT Fin Goal ⟨b.at (a.put o.dst v) (.inRegion ops rest :: k), f0 :: cs, w1⟩) : LT Fin Goal ⟨b.at a (.inRegion ops (i :: rest) :: k), f0 :: cs, w⟩ := by
 cases hr : (execOp a.eval o).run Tq.prog w with
 | ok nx w1 =>
  obtain ⟨v, rfl, kk⟩ := h nx w1 hr
  exact LT.val hf ho hw (by rw [hk]; simp) hr kk
 | halt hh w2 =>
  refine LT.step hf (by simp) fun g' w' es' e hm => ?_
  exfalso
  have hl : Lock Lc.P Lc.F true (Lc.Done 68 o) A (execOp a.eval o) := by
   have := op_lock (A := A) Lc_good (fr := b.at a (.inRegion ops (i :: rest) :: k)) hob hA (fun t g v h1 _ => by cases h1)
   rwa [Frame.eval_at'] at this
  have hP : ({ Lc.P with funcs := Lc.F } : Program) = Tq.prog := by rw [Lc_P, Lc_F]
  have hrun : (execOp a.eval o).runT { Lc.P with funcs := Lc.F } w #[] = (.halt hh w2, ((execOp a.eval o).runT Tq.prog w #[]).2) := by
   rw [hP]
   have := Sem.runT_fst Tq.prog (execOp a.eval o) w #[]
   rw [hr] at this
   exact Prod.ext this rfl
  have hmild := halts hl w w #[] hh w2 _ hrel hrun
  have e' : stepG Tq.prog true (G (b.at a (.inRegion ops (i :: rest) :: k)) (f0 :: cs ++ [c0])) w = .go g' w' es' := e
  rw [stepG_oper ho hw] at e'
  rw [hP] at hrun
  rcases apply_halt (P := Tq.prog) (C := f0 :: cs ++ [c0]) (fr := b.at a (.inRegion ops (i :: rest) :: k)) hk rfl hmild hrun with ⟨o', w3, es3, h3⟩ | ⟨v, w3, es3, h3⟩
  ·rw [h3] at e'; cases e'
  ·rw [h3] at e'
   injection e' with e1 e2
   rw [← e1] at hm
   change (Frame.raise _ _).mode = _ ∨ _ at hm
   unfold Frame.raise at hm
   revert hm
   split <;> simp [mkG]
end
end Go.Proofs.Ytnikfjfcbpeieaa.Lk
end
section
namespace Go.Proofs.Ytnikfjfcbpeieaa.Lk
open Go Go.Conc Go.RowKit
open Go.ConcR.Gen
set_option linter.unusedVariables false
set_option linter.unusedSimpArgs false
theorem len_inv {v x : Value} {w w1 : World} (h : (Builtin.len_ #[35] 3 #[v]).run Tq.prog w = .ok x w1) : ∃ A n cap, v = .slice A n cap ∧ x = .int .i64 (n : Nat) ∧ w1 = w := by
 unfold Builtin.len_ at h
 cases v <;> simp [go_sem, goInt] at h
 ·obtain ⟨rfl, rfl⟩ := h
  exact ⟨_, _, _, rfl, rfl, rfl⟩
theorem e35q : Tq.prog.underlying 35 = some (.slice (Tq.prog.elem 35)) := by kernel_rfl
theorem e35q' : Tq.prog.elem 35 = 5 := by kernel_rfl
theorem cut_inv {A : Option Addr} {n cap : Nat} {x : Value} {w w1 : World} (h : (Instr.sliceAt 35 (.slice A n cap) none (some (.int .i64 (n : Nat))) none).run Tq.prog w = .ok x w1) : n ≤ cap ∧ w1 = w ∧ x = sliced A 0 n cap 1 := by
 by_cases hc : n ≤ cap
 ·rw [run_sliceAt_slice (h := e35q), run_slice_h (ht := e35q) (h0 := by omega) (h2 := by omega), e35q', Tq.sizeOf5] at h
  simp [Result.andThen] at h
  exact ⟨hc, h.2.symm, h.1.symm⟩
 ·exfalso
  obtain ⟨s, w', hp⟩ := run_boundsPanic (P := Tq.prog) (w := w) (α := Nat) .i64 n cap .sliceAcap
  simp [Instr.sliceAt, Instr.slice, Instr.sliceBounds, Instr.sliceBound, go_sem, hc, hp, asIntOf] at h
theorem index_inv {A : Option Addr} {n cap p : Nat} {x : Value} {w w1 : World} (hp : p < n) (h : (Instr.indexAt 35 (.slice A n cap) (.int .i64 (p : Nat))).run Tq.prog w = .ok x w1) : ∃ ad, A = some ad ∧ x = .pointer (some (ad.add p)) ∧ w1 = w := by
 cases A with
 | none =>
  exfalso
  obtain ⟨s, w', hp⟩ := run_boundsPanic (P := Tq.prog) (w := w) (α := Value) .i64 p 0 .index
  simp [Instr.indexAt, go_sem, asIntOf, hp] at h
 | some ad =>
  rw [run_indexAt_slice (h := e35q), if_pos (by omega), e35q', Tq.sizeOf5] at h
  simp [Result.andThen] at h
  exact ⟨ad, rfl, h.1.symm, h.2.symm⟩
theorem load_inv {A : Nat → Prop} {ad : Addr} {x : Value} {w w1 : World} (hA : A ad.block) (hrel : Rel A w w) (h : (Instr.loadAt 5 (.pointer (some ad))).run Tq.prog w = .ok x w1) : w.cell? ad = some x ∧ w1 = w ∧ OkV A x := by
 cases hc : w.cell? ad with
 | some y =>
  simp [Instr.loadAt, Instr.sureAddr, loadVar, go_sem, hc] at h
  obtain ⟨rfl, rfl⟩ := h
  refine ⟨rfl, rfl, ?_⟩
  unfold World.cell? at hc
  cases ho : w.heap[ad.block]? with
  | none => rw [ho] at hc; cases hc
  | some o =>
   rw [ho] at hc
   have := hrel.ok ad.block o hA ho
   cases o <;> first | (simp at hc; done) | skip
   rename_i c el fz
   simp only at hc
   split at hc
   ·cases hc
   ·exact this y (Array.mem_of_getElem? hc)
 | none =>
  exfalso
  have hn : ∃ e, World.farLoad Tq.prog w ad (Mode.plain == Mode.atomic) = .error e := by
   unfold World.farLoad
   cases ho : w.heap[ad.block]? with
   | none => exact ⟨_, rfl⟩
   | some o =>
    have := hrel.ok ad.block o hA ho
    cases o <;> first | exact ⟨_, rfl⟩ | exact this.elim
  obtain ⟨e, he⟩ := hn
  simp [Instr.loadAt, Instr.sureAddr, loadVar, go_sem, hc, he] at h
theorem cmp_inv {op : BinOp} (hop : op = .lss ∨ op = .geq) {v x : Value} {m : Int} {w w1 : World} (h : (binOp op 5 v (.int .u8 m)).run Tq.prog w = .ok x w1) : ∃ y, v = .int .u8 y := by
 rcases hop with rfl | rfl <;> (cases v <;> simp [binOp, go_sem] at h)
 all_goals
  rename_i k y
  by_cases hk : k = .u8
  ·subst hk; exact ⟨y, rfl⟩
  ·simp [hk, go_sem] at h
theorem val_inv {P : Program} {s : Sem Value} {nx : Next} {w w1 : World} (h : (do pure (Next.value (← s)) : Sem Next).run P w = .ok nx w1) : ∃ x, s.run P w = .ok x w1 ∧ nx = .value x := by
 have e : (do pure (Next.value (← s)) : Sem Next).run P w = (s.run P w).andThen fun a w' => .ok (.value a) w' := by simp [go_sem]
 rw [e] at h
 cases hs : s.run P w with
 | ok x w2 =>
  rw [hs] at h
  simp [Result.andThen] at h
  exact ⟨x, by rw [h.2], h.1.symm⟩
 | halt hh w2 => rw [hs] at h; simp [Result.andThen] at h
theorem alloc3 {ρ : Operand → Value} {o : Oper} (ho : o.op = .alloc 3) (w : World) : (execOp ρ o).run Tq.prog w = .ok (.value (.pointer (some ⟨w.heap.size, 0, none⟩))) (w.alloc (.cells #[.int .i64 0] 3)) := by
 simp only [execOp, ho]
 go_simp
noncomputable def D68 : Code := .region 90 #[{ dst := some 15, op := .extract (.const (.bool false)) 0, type := 0, pos := "", after := #[], guard := none }] false
theorem step_leave68' {T : Array Value} {todo : List Item} {w : World} {C : List Frame} (f0 : Frame) : stepG Tq.prog true (G { (base 68).at ⟨T, []⟩ todo with mode := .returning } (f0 :: C)) w = .go (G (f0.finish (T.getD 2 undef)) C) w #[] := by
 simp [G, stepG, unwind, doReturn, results, Frame.at, base, Tq.func68, Tq.results68, seen, GStep.after, Act.eval]
def w5 (w : World) : World := ((((w.alloc (.cells #[.int .i64 0] 3)).alloc (.cells #[.int .i64 0] 3)).alloc (.cells #[.int .i64 0] 3)).alloc (.cells #[.int .i64 0] 3)).alloc (.cells #[.int .i64 0] 3)
section
variable {Fin : Cfg → Prop} (hf : ∀ c, Fin c → c.cs = []) {A : Nat → Prop} {f0 : Frame} {cs : List Frame}
include hf
theorem dead68 {Goal : Cfg → Prop} {a : Act} {k : List Item} {w : World} (hA : OkVs A a.tmps) (hrel : Rel A w w) : LT Fin Goal ⟨(base 68).at a (.code D68 :: k), f0 :: cs, w⟩ := by
 unfold D68
 refine LT.region hf ?_
 simp only [List.size_toArray, List.length_cons, List.length_nil, Nat.reduceAdd, Nat.zero_add, List.range, List.range.loop]
 refine LT.op hf rfl rfl rfl (by kernel_rfl) hA hrel fun nx w1 e => ?_
 exfalso
 simp [execOp, Instr.extract, go_sem, Act.eval] at e
structure GoalL (Ad : Option Addr) (p m : Nat) (s : Int) (f0 : Frame) (cs : List Frame) (w : World) (l : List Int) (c : Cfg) : Prop where
 len : l.length = m
 el : ∀ j ad, j < m → Ad = some ad → w.cell? (ad.add (p + j)) = some (.int .u8 (l.getD j 0))
 nil : 0 < m → ∃ ad, Ad = some ad
 range : ∀ x ∈ l, 0 ≤ x ∧ x < 256
 c : c = ⟨f0.finish (.int .u8 ((s + l.sum) % 256)), cs, w5 w⟩
set_option maxRecDepth 100000 in
set_option maxHeartbeats 8000000 in
theorem loop68 {Ad : Option Addr} {n cap : Nat} {w : World} (hAd : ∀ ad, Ad = some ad → A ad.block) (hrel : Rel A w w) (hs : n ≤ 1000000000) (hfm : f0.mode = .run) : ∀ (m p : Nat), p + m = n → ∀ (s : Int), 0 ≤ s ∧ s < 256 → ∀ T : Array Value, T.size = 16 → OkVs A T → T[0]? = some (.slice Ad n cap) → T[2]? = some (.int .u8 s) → T[3]? = some (.int .i64 (n : Nat)) → T[5]? = some (.int .i64 (p : Nat)) →
  LT Fin (fun c => ∃ l, GoalL Ad p m s f0 cs w l c) ⟨(base 68).at ⟨T, []⟩ [.code (cLp (cB (cL (cR (cR Tq.c68))))), .inLoop (cLp (cB (cL (cR (cR Tq.c68))))), .inBlock 0, .code (cR (cR (cR Tq.c68)))], f0 :: cs, w⟩ := by
 intro m
 induction m with
 | zero =>
  intro p hp s hs0 T hT hA t0 t2 t3 t5
  obtain rfl : p = n := by omega
  obtain ⟨v0, v1, v2, v3, v4, v5, v6, v7, v8, v9, v10, v11, v12, v13, v14, v15, rfl⟩ := arr16 T hT
  simp only [List.getElem?_toArray, List.getElem?_cons_succ, List.getElem?_cons_zero, Option.some.injEq] at t0 t2 t3 t5
  subst t0 t2 t3 t5
  have hnl : ¬ ((p : Int) < (p : Int)) := by omega
  simp only [Tq.c68, cR, cL, cB, cLp]
  clear hA
  repeat (first
   | refine LT.seq hf ?_
   | refine LT.block hf ?_
   | refine LT.loop hf ?_
   | refine LT.inLoop hf ?_
   | refine LT.inBlock hf ?_
   | refine LT.skip hf ?_
   | refine LT.regionEnd hf ?_
   | (refine LT.region hf ?_; simp only [List.size_toArray, List.length_cons, List.length_nil, Nat.reduceAdd, Nat.zero_add, List.range, List.range.loop])
   | (refine LT.cond hf true rfl ?_; simp only [if_true, if_false, Bool.false_eq_true, ↓reduceIte])
   | (refine LT.cond hf false rfl ?_; simp only [if_true, if_false, Bool.false_eq_true, ↓reduceIte])
   | refine LT.exit hf rfl ?_
   | (apply LT.valw hf rfl rfl (by k_ne); (case hr => go_simp; (try w_num); (try rfl)); walk_nrm; (try w_num)))
  refine LT.val hf rfl rfl (by k_ne) (alloc3 rfl _) ?_
  walk_nrm
  refine LT.val hf rfl rfl (by k_ne) (alloc3 rfl _) ?_
  walk_nrm
  refine LT.val hf rfl rfl (by k_ne) (alloc3 rfl _) ?_
  walk_nrm
  refine LT.val hf rfl rfl (by k_ne) (alloc3 rfl _) ?_
  walk_nrm
  refine LT.val hf rfl rfl (by k_ne) (alloc3 rfl _) ?_
  walk_nrm
  refine LT.regionEnd hf ?_
  refine LT.ret hf ?_
  refine LT.step hf (by simp) fun g' w' es e _ => ?_
  have e' := (step_leave68' (w := w5 w) (C := cs ++ [c0]) f0).symm.trans e
  injection e' with e1 e2
  refine ⟨⟨f0.finish (.int .u8 s), cs, w5 w⟩, e1.symm, e2.symm, LT.goal ⟨[], rfl, fun j ad hj => absurd hj (Nat.not_lt_zero j), fun h => absurd h (Nat.lt_irrefl 0), by simp, ?_⟩⟩
  rw [show (s + ([] : List Int).sum) % 256 = s by simp; omega]
 | succ m ih =>
  intro p hp s hs0 T hT hA t0 t2 t3 t5
  have ih' := ih (p + 1) (by omega)
  clear ih
  obtain ⟨v0, v1, v2, v3, v4, v5, v6, v7, v8, v9, v10, v11, v12, v13, v14, v15, rfl⟩ := arr16 T hT
  simp only [List.getElem?_toArray, List.getElem?_cons_succ, List.getElem?_cons_zero, Option.some.injEq] at t0 t2 t3 t5
  subst t0 t2 t3 t5
  have hlt : (p : Int) < (n : Int) := by omega
  have hv0 := hA _ (show _ ∈ _ from by simp only [List.mem_toArray]; exact .head _)
  have hv1 := hA _ (show _ ∈ _ from by simp only [List.mem_toArray]; exact .tail _ (.head _))
  have hv2 := hA _ (show _ ∈ _ from by simp only [List.mem_toArray]; exact .tail _ (.tail _ (.head _)))
  have hv3 := hA _ (show _ ∈ _ from by simp only [List.mem_toArray]; exact .tail _ (.tail _ (.tail _ (.head _))))
  have hv4 := hA _ (show _ ∈ _ from by simp only [List.mem_toArray]; exact .tail _ (.tail _ (.tail _ (.tail _ (.head _)))))
  have hv5 := hA _ (show _ ∈ _ from by simp only [List.mem_toArray]; exact .tail _ (.tail _ (.tail _ (.tail _ (.tail _ (.head _))))))
  have hv6 := hA _ (show _ ∈ _ from by simp only [List.mem_toArray]; exact .tail _ (.tail _ (.tail _ (.tail _ (.tail _ (.tail _ (.head _)))))))
  have hv7 := hA _ (show _ ∈ _ from by simp only [List.mem_toArray]; exact .tail _ (.tail _ (.tail _ (.tail _ (.tail _ (.tail _ (.tail _ (.head _))))))))
  have hv8 := hA _ (show _ ∈ _ from by simp only [List.mem_toArray]; exact .tail _ (.tail _ (.tail _ (.tail _ (.tail _ (.tail _ (.tail _ (.tail _ (.head _)))))))))
  have hv9 := hA _ (show _ ∈ _ from by simp only [List.mem_toArray]; exact .tail _ (.tail _ (.tail _ (.tail _ (.tail _ (.tail _ (.tail _ (.tail _ (.tail _ (.head _))))))))))
  have hv10 := hA _ (show _ ∈ _ from by simp only [List.mem_toArray]; exact .tail _ (.tail _ (.tail _ (.tail _ (.tail _ (.tail _ (.tail _ (.tail _ (.tail _ (.tail _ (.head _)))))))))))
  have hv11 := hA _ (show _ ∈ _ from by simp only [List.mem_toArray]; exact .tail _ (.tail _ (.tail _ (.tail _ (.tail _ (.tail _ (.tail _ (.tail _ (.tail _ (.tail _ (.tail _ (.head _))))))))))))
  have hv12 := hA _ (show _ ∈ _ from by simp only [List.mem_toArray]; exact .tail _ (.tail _ (.tail _ (.tail _ (.tail _ (.tail _ (.tail _ (.tail _ (.tail _ (.tail _ (.tail _ (.tail _ (.head _)))))))))))))
  have hv13 := hA _ (show _ ∈ _ from by simp only [List.mem_toArray]; exact .tail _ (.tail _ (.tail _ (.tail _ (.tail _ (.tail _ (.tail _ (.tail _ (.tail _ (.tail _ (.tail _ (.tail _ (.tail _ (.head _))))))))))))))
  have hv14 := hA _ (show _ ∈ _ from by simp only [List.mem_toArray]; exact .tail _ (.tail _ (.tail _ (.tail _ (.tail _ (.tail _ (.tail _ (.tail _ (.tail _ (.tail _ (.tail _ (.tail _ (.tail _ (.tail _ (.head _)))))))))))))))
  have hv15 := hA _ (show _ ∈ _ from by simp only [List.mem_toArray]; exact .tail _ (.tail _ (.tail _ (.tail _ (.tail _ (.tail _ (.tail _ (.tail _ (.tail _ (.tail _ (.tail _ (.tail _ (.tail _ (.tail _ (.tail _ (.head _))))))))))))))))
  simp only [Tq.c68, cR, cL, cB, cLp] at ih' ⊢
  repeat (first
   | refine LT.seq hf ?_
   | refine LT.block hf ?_
   | refine LT.loop hf ?_
   | refine LT.inBlock hf ?_
   | refine LT.skip hf ?_
   | refine LT.regionEnd hf ?_
   | (refine LT.region hf ?_; simp only [List.size_toArray, List.length_cons, List.length_nil, Nat.reduceAdd, Nat.zero_add, List.range, List.range.loop])
   | (refine LT.cond hf true rfl ?_; simp only [if_true, if_false, Bool.false_eq_true, ↓reduceIte])
   | (refine LT.cond hf false rfl ?_; simp only [if_true, if_false, Bool.false_eq_true, ↓reduceIte])
   | refine LT.exit hf rfl ?_
   | (apply LT.valw hf rfl rfl (by k_ne); (case hr => go_simp; (try w_num); (try rfl)); walk_nrm; (try w_num)))
  refine LT.op hf rfl rfl rfl (by kernel_rfl) (by intro x hx; simp only [List.mem_toArray, List.mem_cons, List.not_mem_nil, or_false] at hx; rcases hx with rfl | rfl | rfl | rfl | rfl | rfl | rfl | rfl | rfl | rfl | rfl | rfl | rfl | rfl | rfl | rfl <;> first | assumption | exact OkV.undef | exact .int _ _ | exact .bool _ | exact .ptr (fun z hz => by cases hz; rw [add_block]; exact hAd _ rfl)) hrel fun nx w1 e => ?_
  obtain ⟨x, hx, rfl⟩ := val_inv (s := Instr.indexAt 35 (.slice Ad n cap) (.int .i64 (p : Nat))) e
  obtain ⟨ad, rfl, rfl, rfl⟩ := index_inv (by omega) hx
  refine ⟨_, rfl, ?_⟩
  clear e hx
  walk_nrm
  refine LT.op hf rfl rfl rfl (by kernel_rfl) (by intro x hx; simp only [List.mem_toArray, List.mem_cons, List.not_mem_nil, or_false] at hx; rcases hx with rfl | rfl | rfl | rfl | rfl | rfl | rfl | rfl | rfl | rfl | rfl | rfl | rfl | rfl | rfl | rfl <;> first | assumption | exact OkV.undef | exact .int _ _ | exact .bool _ | exact .ptr (fun z hz => by cases hz; rw [add_block]; exact hAd _ rfl)) hrel fun nx w2 e => ?_
  obtain ⟨x, hx, rfl⟩ := val_inv (s := Instr.loadAt 5 (.pointer (some (ad.add p)))) e
  obtain ⟨hc, rfl, hxo⟩ := load_inv (by rw [add_block]; exact hAd ad rfl) hrel hx
  refine ⟨_, rfl, ?_⟩
  clear e hx
  walk_nrm
  refine LT.op hf rfl rfl rfl (by kernel_rfl) (by intro x hx; simp only [List.mem_toArray, List.mem_cons, List.not_mem_nil, or_false] at hx; rcases hx with rfl | rfl | rfl | rfl | rfl | rfl | rfl | rfl | rfl | rfl | rfl | rfl | rfl | rfl | rfl | rfl <;> first | assumption | exact OkV.undef | exact .int _ _ | exact .bool _ | exact .ptr (fun z hz => by cases hz; rw [add_block]; exact hAd _ rfl)) hrel fun nx w3 e => ?_
  obtain ⟨x3, hx, rfl⟩ := val_inv (s := do eqGuard .lss 5 (.tmp 9) (.const (.int .u8 256)) x (.int .u8 256); binOp .lss 5 x (.int .u8 256)) e
  have hx' : (binOp .lss 5 x (.int .u8 256)).run Tq.prog w2 = .ok x3 w3 := by simpa [eqGuard, go_sem] using hx
  obtain ⟨y, rfl⟩ := cmp_inv (.inl rfl) hx'
  obtain ⟨rfl, rfl⟩ : x3 = .bool (decide (y < 256)) ∧ w3 = w2 := by simp [binOp, Op.intCmp, go_sem] at hx'; exact ⟨hx'.1.symm, hx'.2.symm⟩
  refine ⟨_, rfl, ?_⟩
  clear e hx hx'
  walk_nrm
  refine LT.valw (v := .bool (decide (0 ≤ y))) hf rfl rfl (by k_ne) (by simp [execOp, eqGuard, binOp, Op.intCmp, go_sem, Act.eval]) ?_
  walk_nrm
  refine LT.regionEnd hf ?_
  refine LT.seq hf ?_
  by_cases hy1 : y < 256
  ·rw [decide_eq_true hy1]
   refine LT.cond hf true rfl ?_
   simp only [if_true]
   refine LT.skip hf ?_
   refine LT.seq hf ?_
   by_cases hy0 : 0 ≤ y
   ·rw [decide_eq_true hy0]
    refine LT.cond hf true rfl ?_
    simp only [if_true]
    refine LT.skip hf ?_
    have hwp : IntKind.i64.wrap ((p : Int) + 1) = ((p + 1 : Nat) : Int) := by rw [IntKind.wrap_i64]; omega
    have hwx : IntKind.u8.wrap (s + y) = (s + y) % 256 := IntKind.wrap_u8 _
    repeat (first
     | refine LT.seq hf ?_
     | refine LT.block hf ?_
     | refine LT.loop hf ?_
     | refine LT.inBlock hf ?_
     | refine LT.skip hf ?_
     | refine LT.regionEnd hf ?_
     | (refine LT.region hf ?_; simp only [List.size_toArray, List.length_cons, List.length_nil, Nat.reduceAdd, Nat.zero_add, List.range, List.range.loop])
     | (refine LT.cond hf true rfl ?_; simp only [if_true, if_false, Bool.false_eq_true, ↓reduceIte])
     | (refine LT.cond hf false rfl ?_; simp only [if_true, if_false, Bool.false_eq_true, ↓reduceIte])
     | refine LT.exit hf rfl ?_
     | (apply LT.valw hf rfl rfl (by k_ne); (case hr => go_simp; (try simp only [hwp, hwx]); (try w_num); (try rfl)); walk_nrm; (try simp only [hwp, hwx]); (try w_num)))
    refine LT.inLoop hf ?_
    refine (ih' ((s + y) % 256) (by omega) _ rfl ?_ rfl rfl rfl rfl).mono ?_
    ·exact (by intro x hx; simp only [List.mem_toArray, List.mem_cons, List.not_mem_nil, or_false] at hx; rcases hx with rfl | rfl | rfl | rfl | rfl | rfl | rfl | rfl | rfl | rfl | rfl | rfl | rfl | rfl | rfl | rfl <;> first | assumption | exact OkV.undef | exact .int _ _ | exact .bool _ | exact .ptr (fun z hz => by cases hz; rw [add_block]; exact hAd _ rfl))
    ·rintro c ⟨l, g1, g2, g3, g4, g5⟩
     refine ⟨y :: l, by simp [g1], fun j ad' hj e => ?_, fun _ => ⟨ad, rfl⟩, fun z hz => ?_, ?_⟩
     ·obtain rfl := Option.some.inj e
      rcases j with _ | j
      ·exact hc
      ·have := g2 j ad (by omega) rfl
       rw [show p + 1 + j = p + (j + 1) by omega] at this
       simpa using this
     ·rcases List.mem_cons.1 hz with rfl | hz
      ·exact ⟨hy0, hy1⟩
      ·exact g4 z hz
     ·rw [g5, List.sum_cons, show ((s + y) % 256 + l.sum) % 256 = (s + (y + l.sum)) % 256 by omega]
   ·rw [decide_eq_false hy0]
    refine LT.cond hf false rfl ?_
    simp only [if_false, Bool.false_eq_true]
    exact dead68 hf (by intro x hx; simp only [List.mem_toArray, List.mem_cons, List.not_mem_nil, or_false] at hx; rcases hx with rfl | rfl | rfl | rfl | rfl | rfl | rfl | rfl | rfl | rfl | rfl | rfl | rfl | rfl | rfl | rfl <;> first | assumption | exact OkV.undef | exact .int _ _ | exact .bool _ | exact .ptr (fun z hz => by cases hz; rw [add_block]; exact hAd _ rfl)) hrel
  ·rw [decide_eq_false hy1]
   refine LT.cond hf false rfl ?_
   simp only [if_false, Bool.false_eq_true]
   exact dead68 hf (by intro x hx; simp only [List.mem_toArray, List.mem_cons, List.not_mem_nil, or_false] at hx; rcases hx with rfl | rfl | rfl | rfl | rfl | rfl | rfl | rfl | rfl | rfl | rfl | rfl | rfl | rfl | rfl | rfl <;> first | assumption | exact OkV.undef | exact .int _ _ | exact .bool _ | exact .ptr (fun z hz => by cases hz; rw [add_block]; exact hAd _ rfl)) hrel
end
end Go.Proofs.Ytnikfjfcbpeieaa.Lk
end
section
namespace Go.Proofs.Ytnikfjfcbpeieaa.Lk
open Go Go.Conc Go.RowKit
open Go.ConcR.Gen
set_option linter.unusedVariables false
set_option linter.unusedSimpArgs false
theorem body68q : Tq.f68.body = some Tq.c68 := by unfold Tq.f68; rfl
set_option maxRecDepth 100000 in
set_option maxHeartbeats 8000000 in
theorem lone_sum {Fin : Cfg → Prop} (hf : ∀ c, Fin c → c.cs = []) {A : Nat → Prop} {f0 : Frame} {cs : List Frame} {w : World} {args : Array Value} (hA : OkVs A args) (h1 : args.size = 1) (hrel : Rel A w w) (hfm : f0.mode = .run) :
  LT Fin (fun c => ∃ (Ad : Option Addr) (n cap : Nat) (l : List Int), args = #[.slice Ad n cap] ∧ n ≤ cap ∧ n ≤ 1000000000 ∧ GoalL Ad 0 n 0 f0 cs w l c) ⟨Frame.enter Tq.prog 68 args .normal, f0 :: cs, w⟩ := by
 obtain ⟨v, rfl⟩ : ∃ v, args = #[v] := by
  obtain ⟨l⟩ := args
  match l, h1 with
  | [v], _ => exact ⟨v, rfl⟩
 have hv : OkV A v := hA _ (by simp)
 have hen : Frame.enter Tq.prog 68 #[v] .normal = (base 68).at ⟨#[v, undef, undef, undef, undef, undef, undef, undef, undef, undef, undef, undef, undef, undef, undef, undef], []⟩ [.code Tq.c68] := by
  rw [enter_at (c := Tq.c68) #[v] Tq.func68 body68q]
  rw [Tq.ntmps68]
  rfl
 rw [hen]
 have hAd : ∀ ad, v = .slice (some ad) 0 0 → A ad.block := fun ad e => by subst e; cases hv with | slice h => exact h _ rfl
 have hloop := fun (Ad : Option Addr) (n cap : Nat) (hAd : ∀ ad, Ad = some ad → A ad.block) (hs : n ≤ 1000000000) => loop68 (Fin := Fin) hf (A := A) (f0 := f0) (cs := cs) (Ad := Ad) (n := n) (cap := cap) (w := w) hAd hrel hs hfm n 0 (by omega) 0 (by omega)
 simp only [Tq.c68, cR, cL, cB, cLp] at hloop ⊢
 repeat (first
  | refine LT.seq hf ?_
  | refine LT.block hf ?_
  | refine LT.loop hf ?_
  | refine LT.inLoop hf ?_
  | refine LT.inBlock hf ?_
  | refine LT.skip hf ?_
  | refine LT.regionEnd hf ?_
  | (refine LT.region hf ?_; simp only [List.size_toArray, List.length_cons, List.length_nil, Nat.reduceAdd, Nat.zero_add, List.range, List.range.loop])
  | (refine LT.cond hf true rfl ?_; simp only [if_true, if_false, Bool.false_eq_true, ↓reduceIte])
  | (refine LT.cond hf false rfl ?_; simp only [if_true, if_false, Bool.false_eq_true, ↓reduceIte])
  | refine LT.exit hf rfl ?_
  | (apply LT.valw hf rfl rfl (by k_ne); (case hr => go_simp; (try w_num); (try rfl)); walk_nrm; (try w_num)))
 refine LT.op hf rfl rfl rfl (by kernel_rfl) (by intro x hx; simp only [List.mem_toArray, List.mem_cons, List.not_mem_nil, or_false] at hx; rcases hx with rfl | rfl | rfl | rfl | rfl | rfl | rfl | rfl | rfl | rfl | rfl | rfl | rfl | rfl | rfl | rfl <;> first | assumption | exact OkV.undef | exact .int _ _ | exact .bool _ | exact .ptr (fun z hz => by cases hz; rw [add_block]; exact hAd _ rfl)) hrel fun nx w1 e => ?_
 have e2 : (do pure (Next.value (← Builtin.len_ #[35] 3 #[v])) : Sem Next).run Tq.prog w = .ok nx w1 := by
  rw [← e]
  simp [execOp, resolve, invoke, builtin, go_sem, Act.eval]
 obtain ⟨x, hx, rfl⟩ := val_inv e2
 clear e2
 obtain ⟨Ad, n, cap, rfl, rfl, rfl⟩ := len_inv hx
 refine ⟨_, rfl, ?_⟩
 clear e hx hAd
 have hAd : ∀ ad, Ad = some ad → A ad.block := fun ad e => by subst e; cases hv with | slice h => exact h _ rfl
 walk_nrm
 refine LT.op hf rfl rfl rfl (by kernel_rfl) (by intro x hx; simp only [List.mem_toArray, List.mem_cons, List.not_mem_nil, or_false] at hx; rcases hx with rfl | rfl | rfl | rfl | rfl | rfl | rfl | rfl | rfl | rfl | rfl | rfl | rfl | rfl | rfl | rfl <;> first | assumption | exact OkV.undef | exact .int _ _ | exact .bool _ | exact .ptr (fun z hz => by cases hz; rw [add_block]; exact hAd _ rfl)) hrel fun nx w2 e => ?_
 obtain ⟨x, hx, rfl⟩ := val_inv (s := Instr.sliceAt 35 (.slice Ad n cap) none (some (.int .i64 (n : Nat))) none) e
 obtain ⟨hcap, rfl, rfl⟩ := cut_inv hx
 refine ⟨_, rfl, ?_⟩
 clear e hx
 walk_nrm
 have hcut : OkV A (sliced Ad 0 n cap 1) := by
  unfold sliced
  refine .slice fun z hz => ?_
  split at hz
  ·exact hAd z hz
  ·obtain ⟨a, ha, rfl⟩ := Option.map_eq_some_iff.1 hz
   rw [add_block]
   exact hAd a ha
 refine LT.valw (v := .int .i64 0) hf rfl rfl (by k_ne) rfl ?_
 walk_nrm
 refine LT.valw (v := .bool (decide ((n : Int) ≤ 1000000000))) hf rfl rfl (by k_ne) (by simp [execOp, eqGuard, binOp, Op.intCmp, go_sem, Act.eval]) ?_
 walk_nrm
 refine LT.regionEnd hf ?_
 refine LT.seq hf ?_
 by_cases hn : (n : Int) ≤ 1000000000
 ·rw [decide_eq_true hn]
  refine LT.cond hf true rfl ?_
  simp only [if_true]
  refine LT.skip hf ?_
  refine LT.seq hf ?_
  refine LT.block hf ?_
  refine LT.loop hf ?_
  refine (hloop Ad n cap hAd (by omega) _ rfl ?_ rfl rfl rfl rfl).mono ?_
  ·exact (by intro x hx; simp only [List.mem_toArray, List.mem_cons, List.not_mem_nil, or_false] at hx; rcases hx with rfl | rfl | rfl | rfl | rfl | rfl | rfl | rfl | rfl | rfl | rfl | rfl | rfl | rfl | rfl | rfl <;> first | assumption | exact OkV.undef | exact .int _ _ | exact .bool _ | exact .ptr (fun z hz => by cases hz; rw [add_block]; exact hAd _ rfl))
  ·rintro c ⟨l, g⟩
   exact ⟨Ad, n, cap, l, rfl, hcap, by omega, g⟩
 ·rw [decide_eq_false hn]
  refine LT.cond hf false rfl ?_
  simp only [if_false, Bool.false_eq_true]
  exact dead68 hf (by intro x hx; simp only [List.mem_toArray, List.mem_cons, List.not_mem_nil, or_false] at hx; rcases hx with rfl | rfl | rfl | rfl | rfl | rfl | rfl | rfl | rfl | rfl | rfl | rfl | rfl | rfl | rfl | rfl <;> first | assumption | exact OkV.undef | exact .int _ _ | exact .bool _ | exact .ptr (fun z hz => by cases hz; rw [add_block]; exact hAd _ rfl)) hrel
theorem w5_size (w : World) : (w5 w).heap.size = w.heap.size + 5 := by simp [w5, alloc_size]
theorem w5_old (w : World) {b : Nat} (h : b < w.heap.size) : (w5 w).heap[b]? = w.heap[b]? := by
 unfold w5
 rw [alloc_old _ _ (by simp [alloc_size]; omega), alloc_old _ _ (by simp [alloc_size]; omega), alloc_old _ _ (by simp [alloc_size]; omega), alloc_old _ _ (by simp [alloc_size]; omega), alloc_old _ _ h]
theorem phase68 {Fin : Cfg → Prop} (hf : ∀ c, Fin c → c.cs = []) : Phase Lb Fin 68 := by
 intro S A args fr cs w' gs w sl t q hary hA hSusp hrel hT h0 hL hP hS
 rw [Lb_P'] at hT ⊢
 have hs0 := hSusp fr (by simp)
 have hself : Rel A w' w' := ⟨rfl, fun _ _ => rfl, hrel.ok, hrel.inb, rfl, rfl⟩
 obtain ⟨c2, hr, Ad, n, cap, l, rfl, hcap, hsm, g⟩ := lone_sum hf hA hary hself hs0.run hT
 have hAd : ∀ ad, Ad = some ad → A ad.block := fun ad e => by
  have hv : OkV A (.slice Ad n cap) := hA _ (by simp)
  subst e; cases hv with | slice h => exact h _ rfl
 have hlow : ∀ b, A b → b < w.heap.size := fun b hb => by rw [← hrel.size]; exact hrel.inb b hb
 have hpre : SPre S w Ad n cap l := by
  refine ⟨fun ad e => ⟨hlow _ (hAd ad e), fun hs => (hS _ hs).1 (hAd ad e)⟩, g.nil, fun p ad hp e => ?_, g.len, hcap, hsm, g.range⟩
  have h1 := g.el p ad hp e
  rw [Nat.zero_add] at h1
  rw [World.cell?_of_block (hrel.same (ad.add p).block (by rw [add_block]; exact hAd ad e)).symm]
  exact h1
 obtain ⟨N, gs1, w1, sl1, t1, q1, k1, k2, k3, k4, k5, k6⟩ := sum_company (sl := sl) hpre (fun b hb => (hS b hb).2) hs0.kind h0 hL hP
 obtain ⟨ops, i, rst, kk, hto, hd⟩ := hs0.at_
 obtain ⟨f1, f2⟩ := finish_ok (A := A) hs0.toFrOk hto (v := .int .u8 (l.sum % 256)) (.int _ _) fun o d g e1 e2 e3 => by rw [hd o d e1 e2] at e3; cases e3
 have hc2 : c2 = ⟨fr.finish (.int .u8 (l.sum % 256)), cs, w5 w'⟩ := by rw [g.c, Int.zero_add]
 subst hc2
 refine ⟨_, N, gs1, w1, sl1, t1, q1, fun b => S b ∨ b = w.heap.size + 1 ∨ b = w.heap.size, A, hr, k1, ⟨k2, k3, k4, f1, .inl (f2.trans hs0.run), fun f hf => hSusp f (by simp [hf]), ⟨?_, fun b hb => ?_, fun b o hb ho => ?_, fun b hb => ?_, hrel.os.trans k6.os.symm, hrel.output.trans k6.output.symm⟩, fun b hb => ?_⟩, fun b hb => .inl hb, fun b hb => hb, k6.tape, k6.os, k6.output, k6.size, fun b hb _ => k6.block b hb⟩
 ·show (w5 w').heap.size = w1.heap.size
  rw [w5_size, k5, hrel.size]
 ·show (w5 w').heap[b]? = w1.heap[b]?
  rw [w5_old w' (hrel.inb b hb), k6.block b (hlow b hb)]
  exact hrel.same b hb
 ·change (w5 w').heap[b]? = some o at ho
  rw [w5_old w' (hrel.inb b hb)] at ho
  exact hrel.ok b o hb ho
 ·show b < (w5 w').heap.size
  rw [w5_size]
  have := hrel.inb b hb
  omega
 ·rcases hb with hb | rfl | rfl
  ·obtain ⟨h1, h2⟩ := hS b hb
   exact ⟨h1, by omega⟩
  ·exact ⟨fun h => by have := hlow _ h; omega, by omega⟩
  ·exact ⟨fun h => by have := hlow _ h; omega, by omega⟩
end Go.Proofs.Ytnikfjfcbpeieaa.Lk
end
section
namespace Go.Proofs.Ytnikfjfcbpeieaa.Lk
open Go Go.Conc Go.RowKit
set_option linter.unusedVariables false
set_option linter.unusedSimpArgs false
theorem results_one {fn : Func} {r : Nat} {tmps : Array Value} (hres : fn.results = #[.tmp r]) (P : Program) (w : World) : (results fn tmps).runT P w #[] = (.ok (tmps.getD r undef) w, #[]) := by
 simp [results, hres]
theorem company_of_lone {f r : Nat} {fn : Func} (hpl : plB f = true) (hho : ∀ t, hoB f t = none) (hfn : Try.prog.funcs[f]? = some fn) (hres : fn.results = #[.tmp r]) (hini : Try.prog.inits.idxOf? f = none) {args : Array Value} {W : World} (hA : OkVs (fun _ => False) args)
  (lone_ : ∀ T : TapeF, Calls Tq.prog f args (tape W T) fun e _ => e = .returned (.bool true)) :
  Ends Try.prog (fun v w' => v = .bool true ∧ Below W.heap.size W w') (crowd #[G (Frame.enter Try.prog f args .normal) []] W none) #[] := by
 have hfq : Tq.prog.funcs[f]? = some fn := by
  obtain ⟨fn', h1, h2, _⟩ := fns_b f (plB_mem hpl)
  have e1 : fn' = fn := Option.some.inj (h1.symm.trans hfn)
  rw [← e1]; exact h2
 have hent : Frame.enter Tq.prog f args .normal = Frame.enter Try.prog f args .normal := by
  unfold Frame.enter
  rw [hfq, hfn]
 let Fin : Cfg → Prop := fun c => c.cs = [] ∧ c.fr.mode = .returning ∧ c.fr.fn = f ∧ c.fr.tmps.getD r undef = .bool true
 have hrel : Rel (fun _ => False) W W := ⟨rfl, fun _ h => h.elim, fun _ _ h => h.elim, fun _ h => h.elim, rfl, rfl⟩
 have hTr : Tr Tq.prog Fin ⟨Frame.enter Tq.prog f args .normal, [], W⟩ := by
  have G3 : (solo Tq.prog (fun g => plB g || g == 68) hoB (fun g => g == 69)).Good := Lc_good
  refine bar (A := fun _ => False) G3 ⟨(enter_ok G3 (Q := Tq.prog) (by simp [solo, hpl]) rfl hA (fun t _ => hho t)).1, .inl rfl, by simp, hrel⟩ (fun c T h => h) (fun c h => h.2.1) fun T => ?_
  obtain ⟨e, w', fr, rfl, hc, h1, h2, h3, h4, fn', h5, h6⟩ := lone_ T [c0]
  obtain ⟨N, hN⟩ := hc
  refine ⟨N, ⟨fr, [], w'⟩, hN, rfl, h2, h1, ?_⟩
  rw [h1, hfq] at h5
  cases h5
  have := Sem.runT_fst Tq.prog (results fn fr.tmps) w' #[]
  rw [results_one hres, h6] at this
  simpa using this
 have hcom : Com Lb (fun _ => False) (fun _ => False) ⟨Frame.enter Tq.prog f args .normal, [], W⟩ #[G (Frame.enter Try.prog f args .normal) []] W #[] (fun _ => 0) := by
  refine ⟨by rw [hent]; rfl, ⟨fun i g hi hg => ?_, fun j _ => rfl⟩, ⟨past_nil.clean, fun i a ha hm => (past_nil.known i a ha hm).imp id fun h => h.1.elim, past_nil.over, past_nil.hears, fun op hop => by simp at hop⟩, (enter_ok Lb_good (Q := Tq.prog) hpl (hfq.trans hfn.symm) hA (fun t _ => hho t)).1, .inl rfl, by simp, hrel, fun _ h => h.elim⟩
  rw [Array.getElem?_eq_none (by simp; omega)] at hg
  cases hg
 have hkept : Kept W (fun _ => False) (fun _ => False) W := ⟨rfl, rfl, rfl, Nat.le_refl _, fun _ _ _ => rfl, fun _ _ h => h⟩
 have hf : ∀ c, Fin c → c.cs = [] := fun c h => h.1
 have hTr' : Tr Lb.P' Fin ⟨Frame.enter Tq.prog f args .normal, [], W⟩ := by rw [Lb_P']; exact hTr
 show Ends Lb.P _ _ _
 refine beside_lone (L := Lb) (Post := fun v w' => v = .bool true ∧ Below W.heap.size W w') (W := W) (A0 := fun _ => False) Lb_good (fun g hg => ?_) ?_ hTr' ⟨Frame.enter Tq.prog f args .normal, [], W⟩ .refl (fun _ => False) (fun _ => False) #[G (Frame.enter Try.prog f args .normal) []] W none #[] (fun _ => 0) hcom hkept
 ·have : g = 68 := by simpa [Lb] using hg
  subst this
  exact phase68 hf
 ·rintro S A ⟨fr, cs, cw⟩ gs w t q ⟨h1, h2, h3, h4⟩ hc hk
  simp only at h1 h2 h3 h4
  subst h1
  refine ⟨.bool true, ?_, rfl, hk.os, hk.tape, hk.output, hk.size, fun b hb => hk.old b hb fun h => hk.sub b hb h⟩
  have hd : fr.defers = [] := hc.fr.defers
  have hkd : fr.kind = .normal := hc.fr.kind
  have hfn' : Lb.P.funcs[fr.fn]? = some fn := by rw [h3]; exact hfn
  have hini' : Lb.P.inits.idxOf? fr.fn = none := by rw [h3]; exact hini
  have hr := results_one (tmps := fr.tmps) hres Lb.P w
  rw [h4] at hr
  have hq := Sem.runT_fst Lb.P (results fn fr.tmps) w #[]
  rw [hr] at hq
  have he : Sem.events Lb.P (results fn fr.tmps) w #[] = #[] := by unfold Sem.events; rw [hr]
  simp [stepG, mkG, h2, unwind, hd, hfn', ← hq, he, doReturn, hkd, hini', seen, GStep.after]
end Go.Proofs.Ytnikfjfcbpeieaa.Lk
end
