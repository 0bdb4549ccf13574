/- One goroutine's own walk among others: from every world of 'F' a stop is reached, within one and the same number of own steps ('Gs'); its steps, one law each. -/
/- The trace while workers run beside goroutine 0 and goroutines that only leave: two blocks are shared (touched by no plain access), all that stood when a worker was started may be read by it. -/
/- The stops of those who meet at a sync.WaitGroup: of a worker on its way out (S..), of the starter (M..: Add; W..: Wait). Written by mkwg.py. -/
/- Two workers, who add to a shared counter and say Done, and their starter, beside goroutines that only leave: where each stands. -/
/- Two workers and their starter beside leavers: what holds at every moment, and how each kind of step keeps it. -/
/- A worker's step, wherever it stands. -/
/- The starter's step, wherever it stands; and all of it to the stop behind Wait. -/
import Derived.Conc.Beside
import Derived.RunT
import Derived.Conc.Events
import Derived.Conc.Own
import Derived.Calls
import Derived.Conc.Walk
import Derived.Conc.Own5
import Derived.Conc.Listed
import Derived.Test.YtnikfjfcbpeieaaML
import Derived.Conc.CrowdCom2
import Derived.Test.YtnikfjfcbpeieaaChecked
import Derived.Conc.WgGenN3
section
namespace Go.Proofs.Ytnikfjfcbpeieaa.Lk
open Go Go.Conc
set_option linter.unusedVariables false
set_option linter.unusedSimpArgs false
section
variable {P : Program} {main : Bool} {R : World → World → Prop} {D : World → World → Array Event → Prop} {Stop : Goroutine → World → Prop} {F : World → Prop}
def Gs (P : Program) (main : Bool) (R : World → World → Prop) (D : World → World → Array Event → Prop) (Stop : Goroutine → World → Prop) (F : World → Prop) (g : Goroutine) : Prop := ∃ n, ∀ w, F w → Goes P main R D Stop n g w
structure Rule (R : World → World → Prop) (D : World → World → Array Event → Prop) (F : World → Prop) : Prop where
 rely : ∀ w w₁, F w → R w w₁ → F w₁
 quiet : ∀ w, F w → D w w #[]
theorem Gs.stop {g : Goroutine} (U : Rule R D F) (h : ∀ w, F w → Stop g w) : Gs P main R D Stop F g := ⟨0, fun w hw w₁ h₁ => h w₁ (U.rely w w₁ hw h₁)⟩
theorem Gs.step {F' : World → Prop} {g g' : Goroutine} (U : Rule R D F) (hs : g.status = .running)
  (h : ∀ w, F w → ∃ w' es, stepG P main g w = .go g' w' es ∧ D w w' es ∧ F' w') (k : Gs P main R D Stop F' g') : Gs P main R D Stop F g := by
 obtain ⟨n, k⟩ := k
 refine ⟨n + 1, fun w hw => Goes.step hs fun w₁ h₁ => ?_⟩
 obtain ⟨w', es, e, hd, hf⟩ := h w₁ (U.rely _ _ hw h₁)
 rw [e]
 exact ⟨hd, k w' hf⟩
theorem Gs.go {g g' : Goroutine} (U : Rule R D F) (hs : g.status = .running) (h : ∀ w, F w → stepG P main g w = .go g' w #[]) (k : Gs P main R D Stop F g') : Gs P main R D Stop F g :=
 Gs.step U hs (fun w hw => ⟨w, #[], h w hw, U.quiet w hw, hw⟩) k
variable {b : Frame} {a : Act} {k : List Item} {cs : List Frame}
theorem Gs.skip (U : Rule R D F) (h : Gs P main R D Stop F (G (b.at a k) cs)) : Gs P main R D Stop F (G (b.at a (.code .skip :: k)) cs) := Gs.go U rfl (fun _ _ => stepG_skip) h
theorem Gs.inBlock {id : Nat} (U : Rule R D F) (h : Gs P main R D Stop F (G (b.at a k) cs)) : Gs P main R D Stop F (G (b.at a (.inBlock id :: k)) cs) := Gs.go U rfl (fun _ _ => stepG_inBlock) h
theorem Gs.seq {x y : Code} (U : Rule R D F) (h : Gs P main R D Stop F (G (b.at a (.code x :: .code y :: k)) cs)) : Gs P main R D Stop F (G (b.at a (.code (.seq x y) :: k)) cs) := Gs.go U rfl (fun _ _ => stepG_seq) h
theorem Gs.cond {c : Operand} {x y : Code} (t : Bool) (U : Rule R D F) (e : a.eval c = .bool t) (h : Gs P main R D Stop F (G (b.at a (.code (if t then x else y) :: k)) cs)) : Gs P main R D Stop F (G (b.at a (.code (.cond c x y) :: k)) cs) := Gs.go U rfl (fun _ _ => stepG_cond e) h
theorem Gs.block {id : Nat} {c : Code} (U : Rule R D F) (h : Gs P main R D Stop F (G (b.at a (.code c :: .inBlock id :: k)) cs)) : Gs P main R D Stop F (G (b.at a (.code (.block id c) :: k)) cs) := Gs.go U rfl (fun _ _ => stepG_block) h
theorem Gs.loop {c : Code} (U : Rule R D F) (h : Gs P main R D Stop F (G (b.at a (.code c :: .inLoop c :: k)) cs)) : Gs P main R D Stop F (G (b.at a (.code (.loop c) :: k)) cs) := Gs.go U rfl (fun _ _ => stepG_loop) h
theorem Gs.inLoop {c : Code} (U : Rule R D F) (h : Gs P main R D Stop F (G (b.at a (.code c :: .inLoop c :: k)) cs)) : Gs P main R D Stop F (G (b.at a (.inLoop c :: k)) cs) := Gs.go U rfl (fun _ _ => stepG_inLoop) h
theorem Gs.exit {id : Nat} {k' : List Item} (U : Rule R D F) (e : exitTo id k = some k') (h : Gs P main R D Stop F (G (b.at a k') cs)) : Gs P main R D Stop F (G (b.at a (.code (.exit id) :: k)) cs) := Gs.go U rfl (fun _ _ => stepG_exit e) h
theorem Gs.region {id : Nat} {ops : Array Oper} (U : Rule R D F) (h : Gs P main R D Stop F (G (b.at a (.inRegion ops (List.range ops.size) :: k)) cs)) : Gs P main R D Stop F (G (b.at a (.code (.region id ops false) :: k)) cs) := Gs.go U rfl (fun _ _ => stepG_region) h
theorem Gs.regionEnd {ops : Array Oper} (U : Rule R D F) (h : Gs P main R D Stop F (G (b.at a k) cs)) : Gs P main R D Stop F (G (b.at a (.inRegion ops [] :: k)) cs) := Gs.go U rfl (fun _ _ => stepG_region_end) h
theorem Gs.end_ (U : Rule R D F) (h : Gs P main R D Stop F (G { b.at a [] with mode := .returning } cs)) : Gs P main R D Stop F (G (b.at a []) cs) := Gs.go U rfl (fun _ _ => stepG_end) h
theorem Gs.ret (U : Rule R D F) (h : Gs P main R D Stop F (G { b.at a (.code .ret :: k) with mode := .returning } cs)) : Gs P main R D Stop F (G (b.at a (.code .ret :: k)) cs) := Gs.go U rfl (fun _ _ => stepG_ret') h
theorem Gs.goes {g g' : Goroutine} (U : Rule R D F) (hs : g.status = .running) (h : ∀ w, F w → ∀ K : Goroutine → World → Array Event → Prop, K g' w #[] → (stepG P main g w).goes K) (k : Gs P main R D Stop F g') : Gs P main R D Stop F g := by
 refine Gs.go U hs (fun w hw => ?_) k
 have := h w hw (fun x y z => x = g' ∧ y = w ∧ z = #[]) ⟨rfl, rfl, rfl⟩
 generalize stepG P main g w = s at this
 cases s with
 | go x y z => obtain ⟨rfl, rfl, rfl⟩ := this; rfl
 | _ => exact absurd this (by simp [GStep.goes])
section
variable {fn : Func} {todo : List Item} {b₀ : Frame} {a₀ : Act} {ops : Array Oper} {i : Nat} {rest : List Nat}
theorem Gs.leave1 {t : Tmp} (U : Rule R D F) (hn : b.kind = .normal) (hd : a.defers = []) (hf : P.funcs[b.fn]? = some fn) (hr : fn.results = #[.tmp t])
  (h : Gs P main R D Stop F (G (b₀.at (a₀.put ((ops[i]?).bind (·.dst)) (a.tmps.getD t undef)) (.inRegion ops rest :: k)) cs)) :
  Gs P main R D Stop F (G { b.at a todo with mode := .returning } (b₀.at a₀ (.inRegion ops (i :: rest) :: k) :: cs)) := Gs.goes U rfl (fun _ _ _ hK => goes_leave1 hn hd hf hr hK) h
theorem Gs.leave0 (U : Rule R D F) (hn : b.kind = .normal) (hd : a.defers = []) (hf : P.funcs[b.fn]? = some fn) (hr : fn.results = #[])
  (h : Gs P main R D Stop F (G (b₀.at (a₀.put ((ops[i]?).bind (·.dst)) (.tuple #[])) (.inRegion ops rest :: k)) cs)) :
  Gs P main R D Stop F (G { b.at a todo with mode := .returning } (b₀.at a₀ (.inRegion ops (i :: rest) :: k) :: cs)) := Gs.goes U rfl (fun _ _ _ hK => goes_leave0 hn hd hf hr hK) h
theorem Gs.call {o : Oper} {f : FuncId} {c : Code} {args : Array Operand} {ats : Array TypeId} (U : Rule R D F)
  (ho : ops[i]? = some o) (hw : Region.wanted o (yielded ops a.tmps) = true) (hk : b.kind ≠ .early) (hop : o.op = .call { callee := .value (.func f), args, argTypes := ats })
  (hf : P.funcs[f]? = some fn) (hname : (fn.name == "runtime.NumGoroutine") = false) (hb : fn.body = some c)
  (h : Gs P main R D Stop F (G ((base f).at { tmps := args.map a.eval ++ Array.replicate (fn.ntmps - (args.map a.eval).size) undef, defers := [] } [.code c]) (b.at a (.inRegion ops (i :: rest) :: k) :: cs))) :
  Gs P main R D Stop F (G (b.at a (.inRegion ops (i :: rest) :: k)) cs) := Gs.goes U rfl (fun _ _ _ hK => goes_call ho hw hk hop hf hname hb hK) h
theorem Gs.unwanted {o : Oper} (U : Rule R D F) (ho : ops[i]? = some o) (hw : Region.wanted o (yielded ops a.tmps) = false)
  (h : Gs P main R D Stop F (G (b.at (a.put o.dst undef) (.inRegion ops rest :: k)) cs)) : Gs P main R D Stop F (G (b.at a (.inRegion ops (i :: rest) :: k)) cs) := Gs.go U rfl (fun _ _ => stepG_unwanted ho hw) h
theorem Gs.val {o : Oper} {v : Value} (U : Rule R D F) (ho : ops[i]? = some o) (hw : Region.wanted o (yielded ops a.tmps) = true) (hk : b.kind ≠ .early)
  (hr : ∀ w, F w → (execOp a.eval o).run P w = .ok (.value v) w) (he : ∀ w, F w → (execOp a.eval o).events P w #[] = #[])
  (h : Gs P main R D Stop F (G (b.at (a.put o.dst v) (.inRegion ops rest :: k)) cs)) : Gs P main R D Stop F (G (b.at a (.inRegion ops (i :: rest) :: k)) cs) :=
 Gs.go U rfl (fun w hF => by rw [stepG_value ho hw hk (hr w hF)]; unfold listed; rw [he w hF, seen_none]) h
theorem Gs.read {o : Oper} {v : Value} (U : Rule R D F) (ho : ops[i]? = some o) (hw : Region.wanted o (yielded ops a.tmps) = true) (hk : b.kind ≠ .early)
  (hr : ∀ w, F w → (execOp a.eval o).run P w = .ok (.value v) w) (he : ∀ w, F w → D w w (listed P b.fn a o w))
  (h : Gs P main R D Stop F (G (b.at (a.put o.dst v) (.inRegion ops rest :: k)) cs)) : Gs P main R D Stop F (G (b.at a (.inRegion ops (i :: rest) :: k)) cs) :=
 Gs.step U rfl (fun w hF => ⟨w, _, stepG_value ho hw hk (hr w hF), he w hF, hF⟩) h
end
def Runs (P : Program) (main : Bool) (R : World → World → Prop) (D : World → World → Array Event → Prop) (Stop : Goroutine → World → Prop) (g : Goroutine) (w : World) : Prop := ∃ m, Goes P main R D Stop m g w
theorem Gs.runs {g : Goroutine} (h : Gs P main R D Stop F g) {w : World} (hw : F w) : Runs P main R D Stop g w := let ⟨n, h⟩ := h; ⟨n, h w hw⟩
end
end Go.Proofs.Ytnikfjfcbpeieaa.Lk
end
section
namespace Go.Proofs.Ytnikfjfcbpeieaa.Lk
open Go Go.Conc
open Go.ConcN (PermW PermW.of PermW.app fork_knows RelBy Deaf_still)
open Go.ConcR (stA)
set_option linter.unusedVariables false
set_option linter.unusedSimpArgs false
section
variable (S : Nat → Prop) (Wg nb K : Nat) (Low : Nat → Nat)
def OfW (l : Loc) : Prop := ∃ a, l = .cell a ∧ (a.block = Wg ∨ a.block = nb)
def RdW (n : Nat) (l : Loc) : Prop := ∃ a, l = .cell a ∧ a.block < n ∧ a.block ≠ Wg ∧ a.block ≠ nb ∧ ¬ S a.block
structure Mid (B j : Nat) (t : Trace) : Prop where
 clean : ∀ said, ¬ Race said t
 quiet : ∀ i a, touchAt t i = some a → OfW Wg nb a.loc → a.kind ≠ .plain
 known : ∀ i a, touchAt t i = some a → a.loc.isMemory = true → Knows t 0 i ∨ (ShB S a.loc ∧ a.kind = .atomic) ∨
  ∃ i', i' < j ∧ t.g? i = some (K + i') ∧ ((OfW Wg nb a.loc ∧ a.kind = .atomic) ∨ (RdW S Wg nb (Low i') a.loc ∧ a.write = false ∧ a.kind = .plain))
 rd : ∀ i, i < j → ∀ l, RdW S Wg nb (Low i) l → PermW t (K + i) l
 over : ∀ i g, t.g? i = some g → g ≠ 0 → t.counts i → (∃ q, t.g? q = some 0 ∧ HappensBefore t i q) ∨ ∃ i', i' < j ∧ g = K + i'
 norel : NoRelease (stA Wg) t
 seen : ∀ op ∈ t, op.act.low B
def OkM (B j : Nat) (x : MemAct) : Prop :=
 (∀ y, x.touch? = some y → (OfW Wg nb y.loc ∧ y.kind ≠ .plain) ∨ (¬ OfW Wg nb y.loc ∧ (ShB S y.loc → y.kind ≠ .plain) ∧ (y.write = true → ∀ i, i < j → ¬ RdW S Wg nb (Low i) y.loc))) ∧ x ≠ .mark (.release (stA Wg)) ∧ x.low B
def OkK (B i : Nat) (x : MemAct) : Prop :=
 (∀ y, x.touch? = some y → (OfW Wg nb y.loc ∧ y.kind = .atomic) ∨ (RdW S Wg nb (Low i) y.loc ∧ y.write = false ∧ y.kind = .plain)) ∧ x ≠ .mark (.release (stA Wg)) ∧ x.low B
end
section
variable {S : Nat → Prop} {Wg nb K : Nat} {Low : Nat → Nat} {B j : Nat} {t u : Trace}
theorem g?_app {i : Nat} (h : i < t.size) : (t ++ u).g? i = t.g? i := by simp [Trace.g?, getElem?_append_old h]
theorem op_of_g {i g : Nat} (hg : t.g? i = some g) : ∃ op, t[i]? = some op ∧ op.g = g := by
 unfold Trace.g? at hg
 exact Option.map_eq_some_iff.1 hg
theorem norel_app (h : NoRelease (stA Wg) t) (hu : ∀ op ∈ u, op.act ≠ .mark (.release (stA Wg))) : NoRelease (stA Wg) (t ++ u) := NoRelease.app h hu
theorem Mid.begin {B' : Nat} (h : Past (ShB S) B t) (hB : B ≤ B') (hW : B ≤ Wg) (hn : B ≤ nb) : Mid S Wg nb K Low B' 0 t := by
 have low : ∀ i a, touchAt t i = some a → OfW Wg nb a.loc → False := fun i a ha ⟨ad, e, hb⟩ => by
  obtain ⟨x, hx, hxa⟩ := touch_of ha
  have h1 := h.seen x (Array.mem_of_getElem? hx)
  have : ad.block < B := by
   cases hact : x.act with
   | access ev =>
    rw [hact] at h1 hxa
    obtain ⟨loc, wr, sy⟩ := ev
    cases loc <;> simp [MemAct.touch?] at hxa <;> (try (subst hxa; simp at e)) <;> (try (subst e; exact h1))
   | mark m =>
    rw [hact] at h1 hxa
    cases m <;> simp [MemAct.touch?] at hxa <;> (subst hxa; simp at e; subst e; exact h1)
   | _ => rw [hact] at hxa; simp [MemAct.touch?] at hxa
  omega
 refine ⟨h.clean, fun i a ha ho => (low i a ha ho).elim, fun i a ha hm => (h.known i a ha hm).imp id .inl, fun i hi => absurd hi (Nat.not_lt_zero i), fun i g hg hne hc => .inl (h.over i g hg hne hc), fun i hi => ?_, fun op hop => MemAct.low_mono hB (h.seen op hop)⟩
 obtain ⟨op, ho, hoa⟩ := Option.map_eq_some_iff.1 hi
 have := h.seen op (Array.mem_of_getElem? ho)
 rw [hoa] at this
 change Wg < B at this
 omega
end
end Go.Proofs.Ytnikfjfcbpeieaa.Lk
end
section
namespace Go.Proofs.Ytnikfjfcbpeieaa.Lk
open Go Go.Conc Go.RowKit
open Go.ConcR (KK wgBlock WgAt stA smA rd wr mk)
open Go.ConcR.Gen
set_option linter.unusedVariables false
set_option linter.unusedSimpArgs false
theorem nm73 : (Try.f73.name == "runtime.NumGoroutine") = false := by kernel_rfl
theorem nm99 : (Try.f99.name == "runtime.NumGoroutine") = false := by kernel_rfl
theorem nm101 : (Try.f101.name == "runtime.NumGoroutine") = false := by kernel_rfl
theorem nm102 : (Try.f102.name == "runtime.NumGoroutine") = false := by kernel_rfl
theorem nm109 : (Try.f109.name == "runtime.NumGoroutine") = false := by kernel_rfl
theorem x92_n : (Try.f92.name == "runtime.NumGoroutine") = false := by kernel_rfl
theorem x92_b : Try.f92.body.isNone = true := by kernel_rfl
theorem x92_x : Extern.findNext Try.f92 = none := by kernel_rfl
theorem x92_f : Extern.find Try.f92 = some (Extern.Race.marked .releaseMerge) := by kernel_rfl
theorem x93_n : (Try.f93.name == "runtime.NumGoroutine") = false := by kernel_rfl
theorem x93_b : Try.f93.body.isNone = true := by kernel_rfl
theorem x93_x : Extern.findNext Try.f93 = none := by kernel_rfl
theorem x93_f : Extern.find Try.f93 = some (fun _ => do mark .disable; pure Extern.Race.none_) := by kernel_rfl
theorem x94_n : (Try.f94.name == "runtime.NumGoroutine") = false := by kernel_rfl
theorem x94_b : Try.f94.body.isNone = true := by kernel_rfl
theorem x94_x : Extern.findNext Try.f94 = none := by kernel_rfl
theorem x94_f : Extern.find Try.f94 = some (fun _ => do mark .enable; pure Extern.Race.none_) := by kernel_rfl
theorem x95_n : (Try.f95.name == "runtime.NumGoroutine") = false := by kernel_rfl
theorem x95_b : Try.f95.body.isNone = true := by kernel_rfl
theorem x95_x : Extern.findNext Try.f95 = none := by kernel_rfl
theorem x95_f : Extern.find Try.f95 = some (fun _ => pure (.bool false)) := by kernel_rfl
theorem x107_n : (Try.f107.name == "runtime.NumGoroutine") = false := by kernel_rfl
theorem x107_b : Try.f107.body.isNone = true := by kernel_rfl
theorem x107_x : Extern.findNext Try.f107 = none := by kernel_rfl
theorem x107_f : Extern.find Try.f107 = some (Extern.Race.marked .acquire) := by kernel_rfl
theorem x100_n : (Try.f100.name == "runtime.NumGoroutine") = false := by kernel_rfl
theorem x100_b : Try.f100.body.isNone = true := by kernel_rfl
theorem x100_x : Extern.findNext Try.f100 = none := by kernel_rfl
theorem x100_f : Extern.find Try.f100 = some (Extern.Race.marked .read) := by kernel_rfl
theorem x110_n : (Try.f110.name == "runtime.NumGoroutine") = false := by kernel_rfl
theorem x110_b : Try.f110.body.isNone = true := by kernel_rfl
theorem x110_x : Extern.findNext Try.f110 = none := by kernel_rfl
theorem x110_f : Extern.find Try.f110 = some (Extern.Race.marked .write) := by kernel_rfl
theorem x104_n : (Try.f104.name == "runtime.NumGoroutine") = false := by kernel_rfl
theorem x104_b : Try.f104.body.isNone = true := by kernel_rfl
theorem x104_x : Extern.findNext Try.f104 = none := by kernel_rfl
theorem x104_f : Extern.find Try.f104 = some (Extern.Sync.semrelease) := by kernel_rfl
theorem x111_n : (Try.f111.name == "runtime.NumGoroutine") = false := by kernel_rfl
theorem x111_b : Try.f111.body.isNone = true := by kernel_rfl
theorem x111_x : Extern.findNext Try.f111 = none := by kernel_rfl
theorem x111_f : Extern.find Try.f111 = some (Extern.Sync.semacquire) := by kernel_rfl
theorem x118_n : (Try.f118.name == "runtime.NumGoroutine") = false := by kernel_rfl
theorem x118_b : Try.f118.body.isNone = true := by kernel_rfl
theorem x118_x : Extern.findNext Try.f118 = none := by kernel_rfl
theorem x118_f : Extern.find Try.f118 = some (Extern.Atomic.update (Op.intArith .add) .u64 true) := by kernel_rfl
theorem x119_n : (Try.f119.name == "runtime.NumGoroutine") = false := by kernel_rfl
theorem x119_b : Try.f119.body.isNone = true := by kernel_rfl
theorem x119_x : Extern.findNext Try.f119 = none := by kernel_rfl
theorem x119_f : Extern.find Try.f119 = some (Extern.Atomic.loadT (.int .u64)) := by kernel_rfl
theorem x120_n : (Try.f120.name == "runtime.NumGoroutine") = false := by kernel_rfl
theorem x120_b : Try.f120.body.isNone = true := by kernel_rfl
theorem x120_x : Extern.findNext Try.f120 = none := by kernel_rfl
theorem x120_f : Extern.find Try.f120 = some (Extern.Atomic.storeT) := by kernel_rfl
theorem x123_n : (Try.f123.name == "runtime.NumGoroutine") = false := by kernel_rfl
theorem x123_b : Try.f123.body.isNone = true := by kernel_rfl
theorem x123_x : Extern.findNext Try.f123 = none := by kernel_rfl
theorem x123_f : Extern.find Try.f123 = some (Extern.Atomic.casT (.int .u64)) := by kernel_rfl
theorem room108 : (Try.prog.info? 108).map (fun i => decide (i.size = 0)) = some false := by kernel_rfl
theorem room78 : (Try.prog.info? 78).map (fun i => decide (i.size = 0)) = some false := by kernel_rfl
def Qs (P : Program) (d : Nat) (g : Goroutine) : Prop := ∃ q, QuitsD P q d g
section
variable {P : Program} {d : Nat} {b : Frame} {a : Act} {k : List Item} {cs : List Frame}
theorem Qs.ctl {g g' : Goroutine} (hs : g.status = .running) (h : ∀ w, stepG P false g w = .go g' w) (k : Qs P d g') : Qs P d g := let ⟨q, k⟩ := k; ⟨q + 1, QuitsD.ctl hs h k⟩
theorem Qs.skip (h : Qs P d (G (b.at a k) cs)) : Qs P d (G (b.at a (.code .skip :: k)) cs) := Qs.ctl rfl (fun _ => stepG_skip) h
theorem Qs.inBlock {id : Nat} (h : Qs P d (G (b.at a k) cs)) : Qs P d (G (b.at a (.inBlock id :: k)) cs) := Qs.ctl rfl (fun _ => stepG_inBlock) h
theorem Qs.seq {x y : Code} (h : Qs P d (G (b.at a (.code x :: .code y :: k)) cs)) : Qs P d (G (b.at a (.code (.seq x y) :: k)) cs) := Qs.ctl rfl (fun _ => stepG_seq) h
theorem Qs.cond {c : Operand} {x y : Code} (t : Bool) (e : a.eval c = .bool t) (h : Qs P d (G (b.at a (.code (if t then x else y) :: k)) cs)) : Qs P d (G (b.at a (.code (.cond c x y) :: k)) cs) := Qs.ctl rfl (fun _ => stepG_cond e) h
theorem Qs.block {id : Nat} {c : Code} (h : Qs P d (G (b.at a (.code c :: .inBlock id :: k)) cs)) : Qs P d (G (b.at a (.code (.block id c) :: k)) cs) := Qs.ctl rfl (fun _ => stepG_block) h
theorem Qs.loop {c : Code} (h : Qs P d (G (b.at a (.code c :: .inLoop c :: k)) cs)) : Qs P d (G (b.at a (.code (.loop c) :: k)) cs) := Qs.ctl rfl (fun _ => stepG_loop) h
theorem Qs.inLoop {c : Code} (h : Qs P d (G (b.at a (.code c :: .inLoop c :: k)) cs)) : Qs P d (G (b.at a (.inLoop c :: k)) cs) := Qs.ctl rfl (fun _ => stepG_inLoop) h
theorem Qs.exit {id : Nat} {k' : List Item} (e : exitTo id k = some k') (h : Qs P d (G (b.at a k') cs)) : Qs P d (G (b.at a (.code (.exit id) :: k)) cs) := Qs.ctl rfl (fun _ => stepG_exit e) h
theorem Qs.region {id : Nat} {ops : Array Oper} (h : Qs P d (G (b.at a (.inRegion ops (List.range ops.size) :: k)) cs)) : Qs P d (G (b.at a (.code (.region id ops false) :: k)) cs) := Qs.ctl rfl (fun _ => stepG_region) h
theorem Qs.regionEnd {ops : Array Oper} (h : Qs P d (G (b.at a k) cs)) : Qs P d (G (b.at a (.inRegion ops [] :: k)) cs) := Qs.ctl rfl (fun _ => stepG_region_end) h
theorem Qs.end_ (h : Qs P d (G { b.at a [] with mode := .returning } cs)) : Qs P d (G (b.at a []) cs) := Qs.ctl rfl (fun _ => stepG_end) h
theorem Qs.ret (h : Qs P d (G { b.at a (.code .ret :: k) with mode := .returning } cs)) : Qs P d (G (b.at a (.code .ret :: k)) cs) := Qs.ctl rfl (fun _ => stepG_ret') h
variable {fn : Func} {todo : List Item} {b₀ : Frame} {a₀ : Act} {ops : Array Oper} {i : Nat} {rest : List Nat}
theorem Qs.unwanted {o : Oper} (ho : ops[i]? = some o) (hw : Region.wanted o (yielded ops a.tmps) = false) (h : Qs P d (G (b.at (a.put o.dst undef) (.inRegion ops rest :: k)) cs)) : Qs P d (G (b.at a (.inRegion ops (i :: rest) :: k)) cs) := Qs.ctl rfl (fun _ => stepG_unwanted ho hw) h
theorem Qs.val {o : Oper} {v : Value} (ho : ops[i]? = some o) (hw : Region.wanted o (yielded ops a.tmps) = true) (hk : b.kind ≠ .early)
  (hr : ∀ w, (execOp a.eval o).run P w = .ok (.value v) w) (he : ∀ w, (execOp a.eval o).events P w #[] = #[]) (h : Qs P d (G (b.at (a.put o.dst v) (.inRegion ops rest :: k)) cs)) : Qs P d (G (b.at a (.inRegion ops (i :: rest) :: k)) cs) :=
 let ⟨q, h⟩ := h; ⟨q + 1, QuitsD.value v ho hw hk hr he h⟩
theorem Qs.leave1 {t : Tmp} (hn : b.kind = .normal) (hd : a.defers = []) (hf : P.funcs[b.fn]? = some fn) (hr : fn.results = #[.tmp t])
  (h : Qs P d (G (b₀.at (a₀.put ((ops[i]?).bind (·.dst)) (a.tmps.getD t undef)) (.inRegion ops rest :: k)) cs)) : Qs P d (G { b.at a todo with mode := .returning } (b₀.at a₀ (.inRegion ops (i :: rest) :: k) :: cs)) := let ⟨q, h⟩ := h; ⟨q + 1, QuitsD.leave1 hn hd hf hr h⟩
theorem Qs.leave0 (hn : b.kind = .normal) (hd : a.defers = []) (hf : P.funcs[b.fn]? = some fn) (hr : fn.results = #[])
  (h : Qs P d (G (b₀.at (a₀.put ((ops[i]?).bind (·.dst)) (.tuple #[])) (.inRegion ops rest :: k)) cs)) : Qs P d (G { b.at a todo with mode := .returning } (b₀.at a₀ (.inRegion ops (i :: rest) :: k) :: cs)) := let ⟨q, h⟩ := h; ⟨q + 1, QuitsD.leave0 hn hd hf hr h⟩
theorem Qs.leaveD {c : Frame} (hn : b.kind = .deferred) (hd : a.defers = []) (hf : P.funcs[b.fn]? = some fn) (hr : fn.results = #[]) (hc : c.mode = .returning) (h : Qs P d (G c cs)) : Qs P d (G { b.at a todo with mode := .returning } (c :: cs)) := let ⟨q, h⟩ := h; ⟨q + 1, QuitsD.leaveD hn hd hf hr hc h⟩
end
theorem Qs.enable {b : Frame} {a : Act} {cs : List Frame} {todo : List Item} {ds : List Deferred} (hd : a.defers = dcall 94 #[] :: ds) (h : Qs Try.prog 0 (G { b.at ⟨a.tmps, ds⟩ todo with mode := .returning } cs)) : Qs Try.prog 1 (G { b.at a todo with mode := .returning } cs) :=
 let ⟨q, h⟩ := h; ⟨q + 1, QuitsD.unwind_mark .enable rfl (by simp) hd Try.func94 x94_n x94_b x94_x x94_f h⟩
def Sil (w w' : World) (es : Array Event) : Prop := w' = w ∧ es = #[]
def Live (Wg : Nat) (w : World) : Prop := ∃ st sm, WgAt 108 Wg w st sm
section
variable (R : World → World → Prop) (Wg : Nat)
def S4 (g : Goroutine) (w : World) : Prop :=
 g.status = .running ∧ mayWake Try.prog g = true ∧ (WgAt 108 Wg w 0 0 → ∃ g', stepG Try.prog false g w = .go g' (w.setCell (smA Wg) (.int .u32 1)) (semEvents (smA Wg)) ∧ Qs Try.prog 1 g')
def S3 (g : Goroutine) (w : World) : Prop :=
 g.status = .running ∧ (WgAt 108 Wg w 1 0 → ∃ g', stepG Try.prog false g w = .go g' (w.setCell (stA Wg) (.int .u64 0)) #[wr (stA Wg)] ∧ Runs Try.prog false R Sil (S4 Wg) g' (w.setCell (stA Wg) (.int .u64 0)))
def S2 (g : Goroutine) (w : World) : Prop :=
 g.status = .running ∧ (WgAt 108 Wg w 1 0 → ∃ g', stepG Try.prog false g w = .go g' w #[rd (stA Wg)] ∧ Runs Try.prog false R Sil (S3 R Wg) g' w)
def S1 (g : Goroutine) (w : World) : Prop :=
 g.status = .running ∧ ∀ v wt : Nat, v ≤ 1 → wt ≤ 1 → WgAt 108 Wg w ((v + 1 : Nat) * KK + wt) 0 →
  ∃ g', stepG Try.prog false g w = .go g' (w.setCell (stA Wg) (.int .u64 (v * KK + wt))) #[rd (stA Wg), wr (stA Wg)] ∧
   ((v = 0 ∧ wt = 1) → Runs Try.prog false R Sil (S2 R Wg) g' (w.setCell (stA Wg) (.int .u64 (v * KK + wt)))) ∧ (¬ (v = 0 ∧ wt = 1) → Qs Try.prog 1 g')
def SK (g : Goroutine) (w : World) : Prop := g.status = .running ∧ ∃ g', stepG Try.prog false g w = .go g' w #[mk .disable] ∧ Runs Try.prog false R Sil (S1 R Wg) g' w
def SR (g : Goroutine) (w : World) : Prop := g.status = .running ∧ ∃ g', stepG Try.prog false g w = .go g' w #[mk (.releaseMerge (stA Wg))] ∧ Runs Try.prog false R Sil (SK R Wg) g' w
end
structure MRule (Wg : Nat) (R : World → World → Prop) (D : World → World → Array Event → Prop) (F : World → Prop) : Prop extends Rule R D F where
 live : ∀ w, F w → Live Wg w
 st : ∀ w v, F w → F (w.setCell (stA Wg) (.int .u64 v))
 sm : ∀ w v, F w → F (w.setCell (smA Wg) (.int .u32 v))
 sayr : ∀ w, F w → D w w #[⟨.mark (.read ⟨Wg, 1, none⟩), false, true⟩]
 sayw : ∀ w, F w → D w w #[⟨.mark (.write ⟨Wg, 1, none⟩), false, true⟩]
noncomputable def c73 : Code := Try.f73.body.getD .skip
noncomputable def c77 : Code := Try.f77.body.getD .skip
def cR : Code → Code | .seq _ b => b | c => c
def cB : Code → Code | .block _ c => c | c => c
def cLp : Code → Code | .loop c => c | c => c
noncomputable def L77 : Code := cLp (cB (cR c77))
section
variable (R : World → World → Prop) (D : World → World → Array Event → Prop) (Wg : Nat) (Stop : Goroutine → World → Prop)
def MKe (g : Goroutine) (w : World) : Prop := g.status = .running ∧ ∃ g', stepG Try.prog true g w = .go g' w #[mk .enable] ∧ Runs Try.prog true R D Stop g' w
def MA (g : Goroutine) (w : World) : Prop :=
 g.status = .running ∧ ∀ v : Nat, v ≤ 1 → WgAt 108 Wg w ((v : Nat) * KK) 0 → ∃ g', stepG Try.prog true g w = .go g' (w.setCell (stA Wg) (.int .u64 ((v + 1 : Nat) * KK))) #[rd (stA Wg), wr (stA Wg)] ∧ Runs Try.prog true R D (MKe R D Stop) g' (w.setCell (stA Wg) (.int .u64 ((v + 1 : Nat) * KK)))
def MKd (g : Goroutine) (w : World) : Prop := g.status = .running ∧ ∃ g', stepG Try.prog true g w = .go g' w #[mk .disable] ∧ Runs Try.prog true R D (MA R D Wg Stop) g' w
def WAcq (g : Goroutine) (w : World) : Prop := g.status = .running ∧ ∃ g', stepG Try.prog true g w = .go g' w #[mk (.acquire (stA Wg))] ∧ Runs Try.prog true R D Stop g' w
def WKe (g : Goroutine) (w : World) : Prop := g.status = .running ∧ ∃ g', stepG Try.prog true g w = .go g' w #[mk .enable] ∧ Runs Try.prog true R D (WAcq R D Wg Stop) g' w
def W4 (g : Goroutine) (w : World) : Prop := g.status = .running ∧ (WgAt 108 Wg w 0 0 → ∃ g', stepG Try.prog true g w = .go g' w #[rd (stA Wg)] ∧ Runs Try.prog true R D (WKe R D Wg Stop) g' w)
def W3 (g : Goroutine) (w : World) : Prop :=
 g.status = .running ∧ g.offers = none ∧ ((∃ st, WgAt 108 Wg w st 0) → stepG Try.prog true g w = .go { g with status := .blocked } w #[]) ∧
  (WgAt 108 Wg w 0 1 → ∃ g', stepG Try.prog true g w = .go g' (w.setCell (smA Wg) (.int .u32 0)) (semEvents (smA Wg)) ∧ Runs Try.prog true R D (W4 R D Wg Stop) g' (w.setCell (smA Wg) (.int .u32 0)))
def W2 (Miss : Goroutine → World → Prop) (vs : Nat) (g : Goroutine) (w : World) : Prop :=
 g.status = .running ∧ ∀ v : Nat, v ≤ 2 → WgAt 108 Wg w ((v : Nat) * KK) 0 →
  (v = vs → ∃ g', stepG Try.prog true g w = .go g' (w.setCell (stA Wg) (.int .u64 ((v : Nat) * KK + 1))) #[rd (stA Wg), wr (stA Wg)] ∧ Runs Try.prog true R D (W3 R D Wg Stop) g' (w.setCell (stA Wg) (.int .u64 ((v : Nat) * KK + 1)))) ∧
  (v ≠ vs → ∃ g', stepG Try.prog true g w = .go g' w #[rd (stA Wg)] ∧ Runs Try.prog true R D Miss g' w)
def W1 : Nat → Goroutine → World → Prop
 | 0, g, w => g.status = .running ∧ (WgAt 108 Wg w 0 0 → ∃ g', stepG Try.prog true g w = .go g' w #[rd (stA Wg)] ∧ Runs Try.prog true R D (WKe R D Wg Stop) g' w)
 | n + 1, g, w => g.status = .running ∧ ∀ v : Nat, v ≤ n + 1 → v ≤ 2 → WgAt 108 Wg w ((v : Nat) * KK) 0 → ∃ g', stepG Try.prog true g w = .go g' w #[rd (stA Wg)] ∧
   (v = 0 → Runs Try.prog true R D (WKe R D Wg Stop) g' w) ∧ (v ≠ 0 → Runs Try.prog true R D (W2 R D Wg Stop (W1 n) v) g' w)
def WKd (g : Goroutine) (w : World) : Prop := g.status = .running ∧ ∃ g', stepG Try.prog true g w = .go g' w #[mk .disable] ∧ Runs Try.prog true R D (W1 R D Wg Stop 2) g' w
end
theorem live_st {Wg : Nat} {w : World} (h : Live Wg w) (v : Int) : Live Wg (w.setCell (stA Wg) (.int .u64 v)) := let ⟨_, _, h⟩ := h; ⟨_, _, h.setSt v⟩
theorem live_sm {Wg : Nat} {w : World} (h : Live Wg w) (v : Int) : Live Wg (w.setCell (smA Wg) (.int .u32 v)) := let ⟨_, _, h⟩ := h; ⟨_, _, h.setSm v⟩
end Go.Proofs.Ytnikfjfcbpeieaa.Lk
end
section
namespace Go.Proofs.Ytnikfjfcbpeieaa.Lk
open Go Go.Conc
open Go.ConcN (sumTo upd sumTo_upd upd_ne upd_same sumTo_congr RelBy cell_of_block)
open Go.ConcR (KK wgBlock WgAt stA smA rd wr mk)
set_option linter.unusedVariables false
set_option linter.unusedSimpArgs false
def CntAt (nb : Nat) (w : World) (c : Int) : Prop := w.heap[nb]? = some (.cells #[.int .u32 c] 117)
def Cnt (nb : Nat) (w : World) : Prop := ∃ c, CntAt nb w c
def cA (nb : Nat) : Addr := ⟨nb, 0, none⟩
structure Env (Wg nb n : Nat) (w w₁ : World) : Prop where
 low : ∀ b, b < n → b ≠ Wg → b ≠ nb → w₁.heap[b]? = w.heap[b]?
 live : Live Wg w → Live Wg w₁
 cnt : Cnt nb w → Cnt nb w₁
structure RM (Wg nb : Nat) (w w₁ : World) : Prop where
 tape : w₁.tape = w.tape
 os : w₁.os = w.os
 output : w₁.output = w.output
 size : w₁.heap.size = w.heap.size
 block : ∀ b, b ≠ Wg → b ≠ nb → w₁.heap[b]? = w.heap[b]?
 live : Live Wg w → Live Wg w₁
 cnt : Cnt nb w → Cnt nb w₁
structure Kp (n : Nat) (w w' : World) : Prop where
 tape : w'.tape = w.tape
 os : w'.os = w.os
 output : w'.output = w.output
 size : w.heap.size ≤ w'.heap.size
 block : ∀ b, b < n → w'.heap[b]? = w.heap[b]?
section
variable {Wg nb n : Nat} {w w₁ w₂ : World}
theorem Env.trans (h : Env Wg nb n w w₁) (k : Env Wg nb n w₁ w₂) : Env Wg nb n w w₂ := ⟨fun b a c d => (k.low b a c d).trans (h.low b a c d), k.live ∘ h.live, k.cnt ∘ h.cnt⟩
theorem Env.refl (w : World) : Env Wg nb n w w := ⟨fun _ _ _ _ => rfl, id, id⟩
theorem RM.trans (h : RM Wg nb w w₁) (k : RM Wg nb w₁ w₂) : RM Wg nb w w₂ := ⟨k.tape.trans h.tape, k.os.trans h.os, k.output.trans h.output, k.size.trans h.size, fun b a c => (k.block b a c).trans (h.block b a c), k.live ∘ h.live, k.cnt ∘ h.cnt⟩
theorem RM.refl (w : World) : RM Wg nb w w := ⟨rfl, rfl, rfl, rfl, fun _ _ _ => rfl, id, id⟩
theorem RM.at (w : World) (d : Nat) : RM Wg nb w (w.at d) := ⟨rfl, rfl, rfl, rfl, fun _ _ _ => rfl, id, id⟩
theorem RM.env (h : RM Wg nb w w₁) : Env Wg nb n w w₁ := ⟨fun b _ c d => h.block b c d, h.live, h.cnt⟩
theorem Kp.trans (h : Kp n w w₁) (k : Kp n w₁ w₂) : Kp n w w₂ := ⟨k.tape.trans h.tape, k.os.trans h.os, k.output.trans h.output, Nat.le_trans h.size k.size, fun b a => (k.block b a).trans (h.block b a)⟩
theorem Kp.env {m : Nat} (h : Kp n w w₁) (hm : m ≤ n) (hW : Wg < n) (hn : nb < n) : Env Wg nb m w w₁ :=
 ⟨fun b a _ _ => h.block b (by omega), fun ⟨st, sm, k⟩ => ⟨st, sm, (h.block Wg hW).trans k⟩, fun ⟨c, k⟩ => ⟨c, (h.block nb hn).trans k⟩⟩
theorem CntAt.set {c : Int} (h : CntAt nb w c) (v : Int) : CntAt nb (w.setCell (cA nb) (.int .u32 v)) v := by
 unfold CntAt at h ⊢
 obtain ⟨hlt, he⟩ := Array.getElem?_eq_some_iff.1 h
 unfold World.setCell cA
 simp [hlt, Array.getElem_modify, he]
theorem CntAt.cell {c : Int} (h : CntAt nb w c) : w.cell? (cA nb) = some (.int .u32 c) := by
 unfold CntAt at h
 simp [World.cell?, cA, h]
end
section
variable (S : Nat → Prop) (Wg nb : Nat) (Low : Nat → Nat)
def DK (i : Nat) (w w' : World) (es : Array Event) : Prop := w' = w ∧ ∀ e ∈ es, OkK S Wg nb Low (Low i) i (.ofEvent e) ∧ e.loc ≠ .mark .disable ∧ e.loc ≠ .mark .enable
def DM (j : Nat) (w w' : World) (es : Array Event) : Prop := Kp (Low (j - 1)) w w' ∧ ∀ e ∈ es, OkM S Wg nb Low w'.heap.size j (.ofEvent e) ∧ e.loc ≠ .mark .disable ∧ e.loc ≠ .mark .enable
def Adds (i : Nat) : List Int → Goroutine → World → Prop
 | [] => Runs Try.prog false (Env Wg nb (Low i)) (DK S Wg nb Low i) (SR (Env Wg nb (Low i)) Wg)
 | x :: r => Runs Try.prog false (Env Wg nb (Low i)) (DK S Wg nb Low i) fun g w =>
   g.status = .running ∧ ∀ c, CntAt nb w c → ∃ g', stepG Try.prog false g w = .go g' (w.setCell (cA nb) (.int .u32 (IntKind.u32.wrap (c + x)))) #[rd (cA nb), wr (cA nb)] ∧ Adds i r g' (w.setCell (cA nb) (.int .u32 (IntKind.u32.wrap (c + x))))
def AddStop (i : Nat) (x : Int) (r : List Int) (g : Goroutine) (w : World) : Prop :=
 g.status = .running ∧ ∀ c, CntAt nb w c → ∃ g', stepG Try.prog false g w = .go g' (w.setCell (cA nb) (.int .u32 (IntKind.u32.wrap (c + x)))) #[rd (cA nb), wr (cA nb)] ∧ Adds S Wg nb Low i r g' (w.setCell (cA nb) (.int .u32 (IntKind.u32.wrap (c + x))))
inductive WS (i : Nat) : List Int → Nat → Nat → Nat → Goroutine → World → Prop
 | add {x : Int} {r : List Int} {m : Nat} {g : Goroutine} {w : World} : Goes Try.prog false (Env Wg nb (Low i)) (DK S Wg nb Low i) (AddStop S Wg nb Low i x r) m g w → WS i (x :: r) 7 m 0 g w
 | r0 {m : Nat} {g : Goroutine} {w : World} : Goes Try.prog false (Env Wg nb (Low i)) (DK S Wg nb Low i) (SR (Env Wg nb (Low i)) Wg) m g w → WS i [] 7 m 0 g w
 | k1 {m : Nat} {g : Goroutine} {w : World} : Goes Try.prog false (Env Wg nb (Low i)) Sil (SK (Env Wg nb (Low i)) Wg) m g w → WS i [] 6 m 0 g w
 | d1 {m : Nat} {g : Goroutine} {w : World} : Goes Try.prog false (Env Wg nb (Low i)) Sil (S1 (Env Wg nb (Low i)) Wg) m g w → WS i [] 5 m 1 g w
 | d2 {m : Nat} {g : Goroutine} {w : World} : Goes Try.prog false (Env Wg nb (Low i)) Sil (S2 (Env Wg nb (Low i)) Wg) m g w → WS i [] 4 m 1 g w
 | d3 {m : Nat} {g : Goroutine} {w : World} : Goes Try.prog false (Env Wg nb (Low i)) Sil (S3 (Env Wg nb (Low i)) Wg) m g w → WS i [] 3 m 1 g w
 | d4 {m : Nat} {g : Goroutine} {w : World} : Goes Try.prog false (Env Wg nb (Low i)) Sil (S4 Wg) m g w → WS i [] 2 m 1 g w
 | quit {q d : Nat} {g : Goroutine} {w : World} : QuitsD Try.prog q d g → WS i [] 1 q d g w
variable (all : Nat → List Int) (Ld : Goroutine → World → Prop)
def MGo (j : Nat) (Next : Goroutine → World → Prop) (g : Goroutine) (w : World) : Prop :=
 g.status = .running ∧ ∃ g' child, stepG Try.prog true g w = .spawn g' child w #[] ∧ child.status = .running ∧ Adds S Wg nb Low j (all j) child w ∧ Next g' w ∧ Low j ≤ w.heap.size
def Spawns : Nat → Goroutine → World → Prop
 | 0 => Runs Try.prog true (RM Wg nb) (DM S Wg nb Low 2) (WKd (RM Wg nb) (DM S Wg nb Low 2) Wg Ld)
 | r + 1 => Runs Try.prog true (RM Wg nb) (DM S Wg nb Low (2 - (r + 1))) (MKd (RM Wg nb) (DM S Wg nb Low (2 - (r + 1))) Wg (MGo S Wg nb Low all (2 - (r + 1)) (Spawns r)))
inductive CTag where
 | sp (r s : Nat) | kd | w1 (n : Nat) | w2 (n vs : Nat) | w3 | blk | w4 | ke | acq | ld
def phi : CTag → Nat
 | .sp r s => 40 + 10 * r + s
 | .kd => 30
 | .w1 n => 11 + 2 * n
 | .w2 n _ => 12 + 2 * n
 | .w3 => 5
 | .blk => 5
 | .w4 => 4
 | .ke => 3
 | .acq => 2
 | .ld => 1
inductive CS : CTag → Nat → Nat → Nat → Goroutine → World → Prop
 | skd {r m : Nat} {g : Goroutine} {w : World} : r < 2 → Goes Try.prog true (RM Wg nb) ((DM S Wg nb Low) (2 - (r + 1))) (MKd (RM Wg nb) ((DM S Wg nb Low) (2 - (r + 1))) Wg (MGo S Wg nb Low all (2 - (r + 1)) (Spawns S Wg nb Low all Ld r))) m g w → CS (.sp r 5) (2 - (r + 1)) m 0 g w
 | sa {r m : Nat} {g : Goroutine} {w : World} : r < 2 → Goes Try.prog true (RM Wg nb) ((DM S Wg nb Low) (2 - (r + 1))) (MA (RM Wg nb) ((DM S Wg nb Low) (2 - (r + 1))) Wg (MGo S Wg nb Low all (2 - (r + 1)) (Spawns S Wg nb Low all Ld r))) m g w → CS (.sp r 4) (2 - (r + 1)) m 1 g w
 | ske {r m : Nat} {g : Goroutine} {w : World} : r < 2 → Goes Try.prog true (RM Wg nb) ((DM S Wg nb Low) (2 - (r + 1))) (MKe (RM Wg nb) ((DM S Wg nb Low) (2 - (r + 1))) (MGo S Wg nb Low all (2 - (r + 1)) (Spawns S Wg nb Low all Ld r))) m g w → CS (.sp r 3) (2 - (r + 1)) m 1 g w
 | sgo {r m : Nat} {g : Goroutine} {w : World} : r < 2 → Goes Try.prog true (RM Wg nb) ((DM S Wg nb Low) (2 - (r + 1))) (MGo S Wg nb Low all (2 - (r + 1)) (Spawns S Wg nb Low all Ld r)) m g w → CS (.sp r 2) (2 - (r + 1)) m 0 g w
 | kd {m : Nat} {g : Goroutine} {w : World} : Goes Try.prog true (RM Wg nb) ((DM S Wg nb Low) 2) (WKd (RM Wg nb) ((DM S Wg nb Low) 2) Wg Ld) m g w → CS .kd 2 m 0 g w
 | w1 {n m : Nat} {g : Goroutine} {w : World} : n ≤ 2 → Goes Try.prog true (RM Wg nb) ((DM S Wg nb Low) 2) (W1 (RM Wg nb) ((DM S Wg nb Low) 2) Wg Ld n) m g w → CS (.w1 n) 2 m 1 g w
 | w2 {n vs m : Nat} {g : Goroutine} {w : World} : 1 ≤ vs → vs ≤ n + 1 → n ≤ 1 → Goes Try.prog true (RM Wg nb) ((DM S Wg nb Low) 2) (W2 (RM Wg nb) ((DM S Wg nb Low) 2) Wg Ld (W1 (RM Wg nb) ((DM S Wg nb Low) 2) Wg Ld n) vs) m g w → CS (.w2 n vs) 2 m 1 g w
 | w3 {m : Nat} {g : Goroutine} {w : World} : Goes Try.prog true (RM Wg nb) ((DM S Wg nb Low) 2) (W3 (RM Wg nb) ((DM S Wg nb Low) 2) Wg Ld) m g w → CS .w3 2 (m + 1) 1 g w
 | blk {g : Goroutine} {w : World} : (∀ w₁, RM Wg nb w w₁ → W3 (RM Wg nb) ((DM S Wg nb Low) 2) Wg Ld g w₁) → CS .blk 2 0 1 { g with status := .blocked } w
 | w4 {m : Nat} {g : Goroutine} {w : World} : Goes Try.prog true (RM Wg nb) ((DM S Wg nb Low) 2) (W4 (RM Wg nb) ((DM S Wg nb Low) 2) Wg Ld) m g w → CS .w4 2 m 1 g w
 | ke {m : Nat} {g : Goroutine} {w : World} : Goes Try.prog true (RM Wg nb) ((DM S Wg nb Low) 2) (WKe (RM Wg nb) ((DM S Wg nb Low) 2) Wg Ld) m g w → CS .ke 2 m 1 g w
 | acq {m : Nat} {g : Goroutine} {w : World} : Goes Try.prog true (RM Wg nb) ((DM S Wg nb Low) 2) (WAcq (RM Wg nb) ((DM S Wg nb Low) 2) Wg Ld) m g w → CS .acq 2 m 0 g w
 | ld {m : Nat} {g : Goroutine} {w : World} : Goes Try.prog true (RM Wg nb) ((DM S Wg nb Low) 2) Ld m g w → CS .ld 2 m 0 g w
end
section
variable {S : Nat → Prop} {Wg nb i : Nat} {Low : Nat → Nat} {rest : List Int} {s m d : Nat} {g : Goroutine} {w w₁ : World}
theorem WS.rely (h : WS S Wg nb Low i rest s m d g w) (hr : Env Wg nb (Low i) w w₁) : WS S Wg nb Low i rest s m d g w₁ := by
 have tr : ∀ a b c, Env Wg nb (Low i) a b → Env Wg nb (Low i) b c → Env Wg nb (Low i) a c := fun _ _ _ h1 h2 => h1.trans h2
 cases h with
 | add h => exact .add (Goes.rely tr h hr)
 | r0 h => exact .r0 (Goes.rely tr h hr)
 | k1 h => exact .k1 (Goes.rely tr h hr)
 | d1 h => exact .d1 (Goes.rely tr h hr)
 | d2 h => exact .d2 (Goes.rely tr h hr)
 | d3 h => exact .d3 (Goes.rely tr h hr)
 | d4 h => exact .d4 (Goes.rely tr h hr)
 | quit h => exact .quit h
theorem WS.running (h : WS S Wg nb Low i rest s m d g w) (hs : s ≠ 1) : g.status = .running := by
 cases h with
 | add h => exact Goes.running (fun _ _ x => x.1) w (Env.refl w) h
 | r0 h => exact Goes.running (fun _ _ x => x.1) w (Env.refl w) h
 | k1 h => exact Goes.running (fun _ _ x => x.1) w (Env.refl w) h
 | d1 h => exact Goes.running (fun _ _ x => x.1) w (Env.refl w) h
 | d2 h => exact Goes.running (fun _ _ x => x.1) w (Env.refl w) h
 | d3 h => exact Goes.running (fun _ _ x => x.1) w (Env.refl w) h
 | d4 h => exact Goes.running (fun _ _ x => x.1) w (Env.refl w) h
 | quit _ => exact absurd rfl hs
theorem WS.status (h : WS S Wg nb Low i rest s m d g w) : g.status = .running ∨ g.status = .finished := by
 by_cases hs : s = 1
 ·subst hs
  cases h with
  | quit h => exact h.status
 ·exact .inl (h.running hs)
theorem WS.woken (h : WS S Wg nb Low i rest s m d g w) (a a' : Goroutine) (w' : World) : woken Try.prog a a' w' g = g := by
 unfold Go.Conc.woken
 split
 ·exact again_running _ h.status
 ·rfl
end
section
variable {S : Nat → Prop} {Wg nb : Nat} {Low : Nat → Nat} {all : Nat → List Int} {Ld : Goroutine → World → Prop} {tag : CTag} {j f d : Nat} {a : Goroutine} {w w' : World}
theorem CS.rely (h : CS S Wg nb Low all Ld tag j f d a w) (hr : RM Wg nb w w') : CS S Wg nb Low all Ld tag j f d a w' := by
 have tr : ∀ x y z, RM Wg nb x y → RM Wg nb y z → RM Wg nb x z := fun _ _ _ h1 h2 => h1.trans h2
 cases h with
 | skd hn h => exact .skd hn (Goes.rely tr h hr)
 | sa hn h => exact .sa hn (Goes.rely tr h hr)
 | ske hn h => exact .ske hn (Goes.rely tr h hr)
 | sgo hn h => exact .sgo hn (Goes.rely tr h hr)
 | kd h => exact .kd (Goes.rely tr h hr)
 | w1 hn h => exact .w1 hn (Goes.rely tr h hr)
 | w2 h1 h2 h3 h => exact .w2 h1 h2 h3 (Goes.rely tr h hr)
 | w3 h => exact .w3 (Goes.rely tr h hr)
 | blk h => exact .blk fun w₂ h₂ => h w₂ (hr.trans h₂)
 | w4 h => exact .w4 (Goes.rely tr h hr)
 | ke h => exact .ke (Goes.rely tr h hr)
 | acq h => exact .acq (Goes.rely tr h hr)
 | ld h => exact .ld (Goes.rely tr h hr)
theorem W1.running {R D n} (h : W1 R D Wg Ld n a w) : a.status = .running := by cases n <;> exact h.1
theorem CS.status (hL : ∀ g w, Ld g w → g.status = .running) (h : CS S Wg nb Low all Ld tag j f d a w) : (a.status = .running ∧ tag ≠ .blk) ∨ (a.status = .blocked ∧ tag = .blk) := by
 cases h with
 | skd _ h => exact .inl ⟨Goes.running (fun _ _ x => x.1) w (RM.refl w) h, by simp⟩
 | sa _ h => exact .inl ⟨Goes.running (fun _ _ x => x.1) w (RM.refl w) h, by simp⟩
 | ske _ h => exact .inl ⟨Goes.running (fun _ _ x => x.1) w (RM.refl w) h, by simp⟩
 | sgo _ h => exact .inl ⟨Goes.running (fun _ _ x => x.1) w (RM.refl w) h, by simp⟩
 | kd h => exact .inl ⟨Goes.running (fun _ _ x => x.1) w (RM.refl w) h, by simp⟩
 | w1 _ h => exact .inl ⟨Goes.running (fun _ _ x => x.running) w (RM.refl w) h, by simp⟩
 | w2 _ _ _ h => exact .inl ⟨Goes.running (fun _ _ x => x.1) w (RM.refl w) h, by simp⟩
 | w3 h => exact .inl ⟨Goes.running (fun _ _ x => x.1) w (RM.refl w) h, by simp⟩
 | blk h => exact .inr ⟨rfl, rfl⟩
 | w4 h => exact .inl ⟨Goes.running (fun _ _ x => x.1) w (RM.refl w) h, by simp⟩
 | ke h => exact .inl ⟨Goes.running (fun _ _ x => x.1) w (RM.refl w) h, by simp⟩
 | acq h => exact .inl ⟨Goes.running (fun _ _ x => x.1) w (RM.refl w) h, by simp⟩
 | ld h => exact .inl ⟨Goes.running hL w (RM.refl w) h, by simp⟩
end
end Go.Proofs.Ytnikfjfcbpeieaa.Lk
end
section
namespace Go.Proofs.Ytnikfjfcbpeieaa.Lk
open Go Go.Conc
open Go.ConcN (sumTo upd sumTo_upd upd_ne upd_same sumTo_congr RelBy get_map_set get_map_set_same)
open Go.ConcR (KK wgBlock WgAt stA smA rd wr mk)
set_option linter.unusedVariables false
set_option linter.unusedSimpArgs false
structure WD where
 rest : List Int
 stage : Nat
 fuel : Nat
 deaf : Nat
def cnt (d : WD) : Nat := if 5 ≤ d.stage then 1 else 0
def Vc (j : Nat) (D : Nat → WD) : Nat := sumTo j fun i => cnt (D i)
def rsum (D : Nat → WD) : Int := (D 0).rest.sum + (D 1).rest.sum
def pend : CTag → Nat
 | .sp _ s => if s ≤ 3 then 1 else 0
 | _ => 0
def isOpen : CTag → Prop
 | .sp _ _ | .kd | .w1 _ | .w2 _ _ => True
 | _ => False
def isW3 : CTag → Prop
 | .w3 | .blk => True
 | _ => False
def isFin : CTag → Prop
 | .w4 | .ke | .acq | .ld => True
 | _ => False
def OpenSt (j : Nat) (D : Nat → WD) : Prop := ∀ i, i < j → (D i).stage = 7 ∨ (D i).stage = 6 ∨ (D i).stage = 5 ∨ (D i).stage = 1
def AllQuit (j : Nat) (D : Nat → WD) : Prop := ∀ i, i < j → (D i).stage = 1
inductive Mode (j : Nat) (D : Nat → WD) : CTag → Int → Int → Prop
 | opn {tag : CTag} : isOpen tag → OpenSt j D → (∀ n, tag = .w1 n → Vc j D ≤ n) → (∀ n vs, tag = .w2 n vs → Vc j D ≤ vs) → Mode j D tag (((Vc j D + pend tag : Nat) : Int) * KK) 0
 | reg {tag : CTag} : isW3 tag → OpenSt j D → 1 ≤ Vc j D → Mode j D tag (((Vc j D : Nat) : Int) * KK + 1) 0
 | last {tag : CTag} (L : Nat) : isW3 tag → L < j → ((D L).stage = 4 ∨ (D L).stage = 3 ∨ (D L).stage = 2) → (∀ i, i < j → i ≠ L → (D i).stage = 1) → Mode j D tag (if (D L).stage = 2 then 0 else 1) 0
 | sema : AllQuit j D → Mode j D .w3 0 1
 | fin {tag : CTag} : isFin tag → AllQuit j D → Mode j D tag 0 0
theorem Mode.retag {j : Nat} {D : Nat → WD} {tag tag' : CTag} {st sm : Int} (h : Mode j D tag st sm) (e : tag' = tag ∨ (tag = .blk ∧ tag' = .w3)) : Mode j D tag' st sm := by
 rcases e with rfl | ⟨rfl, rfl⟩
 ·exact h
 ·cases h with
  | opn h1 _ _ _ => exact h1.elim
  | reg _ h2 h3 => exact .reg trivial h2 h3
  | last L _ h2 h3 h4 => exact .last L trivial h2 h3 h4
  | fin h1 _ => exact h1.elim
theorem phi_retag {tag tag' : CTag} (e : tag' = tag ∨ (tag = .blk ∧ tag' = .w3)) : phi tag' = phi tag := by
 rcases e with rfl | ⟨rfl, rfl⟩ <;> rfl
section
variable (S : Nat → Prop) (Wg nb K : Nat) (Low : Nat → Nat) (all : Nat → List Int) (Ld : Goroutine → World → Prop)
structure Crew (j : Nat) (gs : Array Goroutine) (w : World) (t : Trace) (D : Nat → WD) (d0 : Nat) (q : Nat → Nat) : Prop where
 size : gs.size = K + j
 old : ∀ p g, 0 < p → p < K → gs[p]? = some g → QuitsD Try.prog (q p) (Deaf t p) g
 wk : ∀ i, i < j → ∃ g, gs[K + i]? = some g ∧ WS S Wg nb Low i (D i).rest (D i).stage (D i).fuel (D i).deaf g w
 mid : Mid S Wg nb K Low w.heap.size j t
 deaf0 : Deaf t 0 = d0
 deafW : ∀ i, i < j → Deaf t (K + i) = (D i).deaf
 rel : ∀ i, i < j → (D i).stage ≤ 6 → ∃ r, RelBy (stA Wg) t (K + i) r
 above : ∀ p, K + j ≤ p → Deaf t p = 0
 fresh : ∀ i, j ≤ i → (D i).rest = all i ∧ (D i).stage = 7
 room : ∀ i, i < j → Low i ≤ w.heap.size
structure Geo (B0 : Nat) : Prop where
 mono : ∀ a b, a ≤ b → Low a ≤ Low b
 hW : Wg < Low 0
 hn : nb < Low 0
 ne : Wg ≠ nb
 bW : B0 ≤ Wg
 bn : B0 ≤ nb
 hK : 0 < K
 bS : ∀ b, S b → b < B0
def CntOk (T : Int) (D : Nat → WD) (w : World) : Prop := ∃ c, CntAt nb w c ∧ 0 ≤ c ∧ c < 4294967296 ∧ (c + rsum D) % 4294967296 = T
end
section
variable {S : Nat → Prop} {Wg nb K : Nat} {Low : Nat → Nat} {all : Nat → List Int} {Ld : Goroutine → World → Prop}
 {gs : Array Goroutine} {w w' : World} {sl : Option (Nat × Nat)} {j : Nat} {D : Nat → WD} {tag : CTag} {f0 d0 : Nat} {a : Goroutine} {t : Trace} {q : Nat → Nat} {T : Int} {B0 : Nat} {W : World}
theorem CS.two (h : CS S Wg nb Low all Ld tag j f0 d0 a w) : j ≤ 2 := by cases h <;> omega
theorem Crew.at (h : Crew S Wg nb K Low all j gs w t D d0 q) (d : Nat) : Crew S Wg nb K Low all j gs (w.at d) t D d0 q :=
 ⟨h.size, h.old, fun i hi => let ⟨g, hg, hs⟩ := h.wk i hi; ⟨g, hg, hs.rely (RM.env (RM.at w d))⟩, h.mid, h.deaf0, h.deafW, h.rel, h.above, h.fresh, h.room⟩
theorem ofEvents_g {p : Nat} {fn : FuncId} {pos : String} {es : Array Event} : ∀ op ∈ MemOp.ofEvents p fn pos es, op.g = p := fun op hop => by obtain ⟨e, _, rfl⟩ := Go.Conc.mem_ofEvents hop; rfl
end
end Go.Proofs.Ytnikfjfcbpeieaa.Lk
end
section
namespace Go.Proofs.Ytnikfjfcbpeieaa.Lk
open Go Go.Conc
open Go.ConcN (sumTo upd sumTo_upd upd_ne upd_same sumTo_congr RelBy le_sumTo)
open Go.ConcR (KK wgBlock WgAt stA smA rd wr mk)
set_option linter.unusedVariables false
set_option linter.unusedSimpArgs false
theorem vc_upd {j i : Nat} (D : Nat → WD) (x : WD) (hi : i < j) : Vc j (upd D i x) + cnt (D i) = Vc j D + cnt x := sumTo_upd D x cnt hi
theorem vc_same {j : Nat} {D D' : Nat → WD} (h : ∀ i, (D' i).stage = (D i).stage) : Vc j D' = Vc j D := sumTo_congr fun i _ => by simp only [cnt, h]
theorem Mode.same {j : Nat} {D D' : Nat → WD} {tag : CTag} {st sm : Int} (h : Mode j D tag st sm) (e : ∀ i, (D' i).stage = (D i).stage) : Mode j D' tag st sm := by
 have ev := vc_same (j := j) e
 have eo : OpenSt j D → OpenSt j D' := fun h i hi => by rw [e]; exact h i hi
 have ea : AllQuit j D → AllQuit j D' := fun h i hi => by rw [e]; exact h i hi
 cases h with
 | opn h1 h2 h3 h4 => rw [← ev]; exact .opn h1 (eo h2) (fun n hn => by rw [ev]; exact h3 n hn) (fun n vs hn => by rw [ev]; exact h4 n vs hn)
 | reg h1 h2 h3 => rw [← ev]; exact .reg h1 (eo h2) (by rw [ev]; exact h3)
 | last L h1 h2 h3 h4 => rw [← e L]; exact .last L h1 h2 (by rw [e]; exact h3) (fun i hi hne => by rw [e]; exact h4 i hi hne)
 | sema h => exact .sema (ea h)
 | fin h1 h2 => exact .fin h1 (ea h2)
theorem Mode.counted {j i : Nat} {D : Nat → WD} {tag : CTag} {st sm : Int} {x : WD} (hi : i < j) (h : Mode j D tag st sm) (h1 : 5 ≤ (D i).stage) (h2 : x.stage = 7 ∨ x.stage = 6 ∨ x.stage = 5) : Mode j (upd D i x) tag st sm := by
 have ev := vc_upd D x hi
 have hx : cnt x = 1 := by unfold cnt; rw [if_pos (by omega)]
 have hd : cnt (D i) = 1 := by unfold cnt; rw [if_pos h1]
 have ev' : Vc j (upd D i x) = Vc j D := by omega
 have eo : OpenSt j D → OpenSt j (upd D i x) := fun h p hp => by
  by_cases e : p = i
  ·subst e; rw [upd_same]; omega
  ·rw [upd_ne D _ e]; exact h p hp
 cases h with
 | opn h3 h4 h5 h6 => rw [← ev']; exact .opn h3 (eo h4) (fun n hn => by rw [ev']; exact h5 n hn) (fun n vs hn => by rw [ev']; exact h6 n vs hn)
 | reg h3 h4 h5 => rw [← ev']; exact .reg h3 (eo h4) (by rw [ev']; exact h5)
 | last L _ h4 h5 h6 =>
  exfalso
  by_cases e : i = L
  ·subst e; omega
  ·have := h6 i hi e; omega
 | sema h => exact absurd (h i hi) (by omega)
 | fin _ h => exact absurd (h i hi) (by omega)
theorem Mode.ldq {j : Nat} {D : Nat → WD} {tag : CTag} {st sm : Int} (h : Mode j D tag st sm) (e : tag = .ld) : AllQuit j D := by
 subst e
 cases h with
 | opn h _ _ _ => exact h.elim
 | reg h _ _ => exact h.elim
 | last _ h _ _ _ => exact h.elim
 | fin _ h => exact h
section
variable {S : Nat → Prop} {Wg nb K : Nat} {Low : Nat → Nat} {all : Nat → List Int} {Ld : Goroutine → World → Prop}
 {gs : Array Goroutine} {w w' : World} {sl : Option (Nat × Nat)} {j : Nat} {D : Nat → WD} {tag : CTag} {f0 d0 : Nat} {a : Goroutine} {t : Trace} {q : Nat → Nat} {T : Int} {B0 : Nat} {W : World}
theorem CntOk.same {D' : Nat → WD} (h : CntOk nb T D w) (hw : w'.heap[nb]? = w.heap[nb]?) (e : rsum D' = rsum D) : CntOk nb T D' w' := by
 obtain ⟨c, h1, h2, h3, h4⟩ := h
 exact ⟨c, hw.trans h1, h2, h3, by rw [e]; exact h4⟩
end
end Go.Proofs.Ytnikfjfcbpeieaa.Lk
end
section
namespace Go.Proofs.Ytnikfjfcbpeieaa.Lk
open Go Go.Conc
open Go.ConcN (sumTo upd sumTo_upd sumTo_upd_out upd_ne upd_same sumTo_congr RelBy le_sumTo Deaf_still)
open Go.ConcR (KK wgBlock WgAt stA smA rd wr mk)
set_option linter.unusedVariables false
set_option linter.unusedSimpArgs false
theorem goes_split2 {P : Program} {main : Bool} {R : World → World → Prop} {D : World → World → Array Event → Prop} {Stop : Goroutine → World → Prop} {m : Nat} {g : Goroutine} {w : World} (hr : R w w) (h : Goes P main R D Stop m g w) :
  (∀ w₁, R w w₁ → Stop g w₁) ∨ ∃ m' g' w' es, m = m' + 1 ∧ stepG P main g w = .go g' w' es ∧ D w w' es ∧ Goes P main R D Stop m' g' w' := by
 cases m with
 | zero => exact .inl h
 | succ m =>
  rcases h with h | ⟨_, h⟩
  ·exact .inl h
  ·have := h w hr
   revert this
   cases hs : stepG P main g w <;> simp only [GStep.goes, false_implies]
   exact fun ⟨d, x⟩ => .inr ⟨m, _, _, _, rfl, rfl, d, x⟩
theorem vc_le {D : Nat → WD} : ∀ j, Vc j D ≤ j
 | 0 => Nat.le_refl 0
 | j + 1 => by
  have : cnt (D j) ≤ 1 := by unfold cnt; split <;> omega
  have h : sumTo j (fun p => cnt (D p)) ≤ j := vc_le j
  show sumTo j (fun p => cnt (D p)) + cnt (D j) ≤ j + 1
  omega
theorem vc_quit {D : Nat → WD} : ∀ j, AllQuit j D → Vc j D = 0
 | 0, _ => rfl
 | j + 1, h => by
  have h1 : sumTo j (fun p => cnt (D p)) = 0 := vc_quit j fun i hi => h i (by omega)
  have h2 : cnt (D j) = 0 := by unfold cnt; rw [h j (by omega)]; rfl
  show sumTo j (fun p => cnt (D p)) + cnt (D j) = 0
  omega
theorem quit_of {j : Nat} {D : Nat → WD} (ho : OpenSt j D) (hv : Vc j D = 0) : AllQuit j D := fun i hi => by
 have h1 := le_sumTo (f := fun p => cnt (D p)) hi
 have h2 : cnt (D i) = 0 := by
  have : sumTo j (fun p => cnt (D p)) = 0 := hv
  omega
 unfold cnt at h2
 rcases ho i hi with h | h | h | h
 ·rw [h] at h2; simp at h2
 ·rw [h] at h2; simp at h2
 ·rw [h] at h2; simp at h2
 ·exact h
theorem Mode.inv {j : Nat} {D : Nat → WD} {tag : CTag} {st sm : Int} (h : Mode j D tag st sm) (ho : isOpen tag) :
  OpenSt j D ∧ st = ((Vc j D + pend tag : Nat) : Int) * KK ∧ sm = 0 ∧ (∀ n, tag = .w1 n → Vc j D ≤ n) ∧ (∀ n vs, tag = .w2 n vs → Vc j D ≤ vs) := by
 cases h with
 | opn h1 h2 h3 h4 => exact ⟨h2, rfl, rfl, h3, h4⟩
 | reg h _ _ => cases tag <;> simp_all [isW3, isOpen]
 | last _ h _ _ _ => cases tag <;> simp_all [isW3, isOpen]
 | sema _ => exact ho.elim
 | fin h _ => cases tag <;> simp_all [isFin, isOpen]
theorem Mode.inv_fin {j : Nat} {D : Nat → WD} {tag : CTag} {st sm : Int} (h : Mode j D tag st sm) (ho : isFin tag) : AllQuit j D ∧ st = 0 ∧ sm = 0 := by
 cases h with
 | opn h1 h2 h3 h4 => cases tag <;> simp_all [isFin, isOpen]
 | reg h _ _ => cases tag <;> simp_all [isW3, isFin]
 | last _ h _ _ _ => cases tag <;> simp_all [isW3, isFin]
 | sema _ => exact ho.elim
 | fin h h2 => exact ⟨h2, rfl, rfl⟩
section
variable {S : Nat → Prop} {Wg nb K : Nat} {Low : Nat → Nat} {all : Nat → List Int} {Ld : Goroutine → World → Prop}
 {gs : Array Goroutine} {w w' : World} {sl : Option (Nat × Nat)} {j : Nat} {D : Nat → WD} {tag : CTag} {f0 d0 : Nat} {a : Goroutine} {t : Trace} {q : Nat → Nat} {T : Int} {B0 : Nat} {W : World}
end
end Go.Proofs.Ytnikfjfcbpeieaa.Lk
end
