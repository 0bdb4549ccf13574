/- One goroutine's own walk among others: from every world of 'F' a stop is reached, within one and the same number of own steps ('Gs'); its steps, one law each. -/
/- The stops of those who meet at a sync.WaitGroup: of a worker on its way out (S..), of the starter (M..: Add; W..: Wait). Written by mkwg.py. -/
/- The trace while workers run beside goroutine 0 and goroutines that only leave: two blocks are shared (touched by no plain access), all that stood when a worker was started may be read by it. -/
/- Two workers, who add to a shared counter and say Done, and their starter, beside goroutines that only leave: where each stands. -/
/- Two workers and their starter beside leavers: what holds at every moment, and how each kind of step keeps it. -/
/- A worker's step, wherever it stands. -/
/- The starter's step, wherever it stands; and all of it to the stop behind Wait. -/
import Derived.Test.YtnikfjfcbpeieaaML
import Derived.Conc.Walk
import Derived.Conc.Own5
import Derived.Conc.Listed
import Derived.Test.YtnikfjfcbpeieaaChecked
import Derived.Conc.WgGenN3
import Derived.Conc.CrowdCom2
section
namespace Go.Proofs.Ytnikfjfcbpeieaa.Lk
open Go Go.Conc
set_option linter.unusedVariables false
set_option linter.unusedSimpArgs false

section
variable {P : Program} {main : Bool} {R : World → World → Prop} {D : World → World → Array Event → Prop} {Stop : Goroutine → World → Prop} {F : World → Prop}

def Gs (P : Program) (main : Bool) (R : World → World → Prop) (D : World → World → Array Event → Prop) (Stop : Goroutine → World → Prop) (F : World → Prop) (g : Goroutine) : Prop := ∃ n, ∀ w, F w → Goes P main R D Stop n g w

/-- What is known stands whatever the others do; a step that does nothing is allowed. -/
structure Rule (R : World → World → Prop) (D : World → World → Array Event → Prop) (F : World → Prop) : Prop where
  rely : ∀ w w₁, F w → R w w₁ → F w₁
  quiet : ∀ w, F w → D w w #[]

theorem Gs.stop {g : Goroutine} (U : Rule R D F) (h : ∀ w, F w → Stop g w) : Gs P main R D Stop F g := ⟨0, fun w hw w₁ h₁ => h w₁ (U.rely w w₁ hw h₁)⟩

/-- A step that lists 'es' and turns the world. -/
theorem Gs.step {F' : World → Prop} {g g' : Goroutine} (U : Rule R D F) (hs : g.status = .running)
    (h : ∀ w, F w → ∃ w' es, stepG P main g w = .go g' w' es ∧ D w w' es ∧ F' w') (k : Gs P main R D Stop F' g') : Gs P main R D Stop F g := by
  obtain ⟨n, k⟩ := k
  refine ⟨n + 1, fun w hw => Goes.step hs fun w₁ h₁ => ?_⟩
  obtain ⟨w', es, e, hd, hf⟩ := h w₁ (U.rely _ _ hw h₁)
  rw [e]
  exact ⟨hd, k w' hf⟩

theorem Gs.go {g g' : Goroutine} (U : Rule R D F) (hs : g.status = .running) (h : ∀ w, F w → stepG P main g w = .go g' w #[]) (k : Gs P main R D Stop F g') : Gs P main R D Stop F g :=
  Gs.step U hs (fun w hw => ⟨w, #[], h w hw, U.quiet w hw, hw⟩) k

variable {b : Frame} {a : Act} {k : List Item} {cs : List Frame}
theorem Gs.skip (U : Rule R D F) (h : Gs P main R D Stop F (G (b.at a k) cs)) : Gs P main R D Stop F (G (b.at a (.code .skip :: k)) cs) := Gs.go U rfl (fun _ _ => stepG_skip) h
theorem Gs.inBlock {id : Nat} (U : Rule R D F) (h : Gs P main R D Stop F (G (b.at a k) cs)) : Gs P main R D Stop F (G (b.at a (.inBlock id :: k)) cs) := Gs.go U rfl (fun _ _ => stepG_inBlock) h
theorem Gs.seq {x y : Code} (U : Rule R D F) (h : Gs P main R D Stop F (G (b.at a (.code x :: .code y :: k)) cs)) : Gs P main R D Stop F (G (b.at a (.code (.seq x y) :: k)) cs) := Gs.go U rfl (fun _ _ => stepG_seq) h
theorem Gs.cond {c : Operand} {x y : Code} (t : Bool) (U : Rule R D F) (e : a.eval c = .bool t) (h : Gs P main R D Stop F (G (b.at a (.code (if t then x else y) :: k)) cs)) : Gs P main R D Stop F (G (b.at a (.code (.cond c x y) :: k)) cs) := Gs.go U rfl (fun _ _ => stepG_cond e) h
theorem Gs.block {id : Nat} {c : Code} (U : Rule R D F) (h : Gs P main R D Stop F (G (b.at a (.code c :: .inBlock id :: k)) cs)) : Gs P main R D Stop F (G (b.at a (.code (.block id c) :: k)) cs) := Gs.go U rfl (fun _ _ => stepG_block) h
theorem Gs.loop {c : Code} (U : Rule R D F) (h : Gs P main R D Stop F (G (b.at a (.code c :: .inLoop c :: k)) cs)) : Gs P main R D Stop F (G (b.at a (.code (.loop c) :: k)) cs) := Gs.go U rfl (fun _ _ => stepG_loop) h
theorem Gs.inLoop {c : Code} (U : Rule R D F) (h : Gs P main R D Stop F (G (b.at a (.code c :: .inLoop c :: k)) cs)) : Gs P main R D Stop F (G (b.at a (.inLoop c :: k)) cs) := Gs.go U rfl (fun _ _ => stepG_inLoop) h
theorem Gs.exit {id : Nat} {k' : List Item} (U : Rule R D F) (e : exitTo id k = some k') (h : Gs P main R D Stop F (G (b.at a k') cs)) : Gs P main R D Stop F (G (b.at a (.code (.exit id) :: k)) cs) := Gs.go U rfl (fun _ _ => stepG_exit e) h
theorem Gs.region {id : Nat} {ops : Array Oper} (U : Rule R D F) (h : Gs P main R D Stop F (G (b.at a (.inRegion ops (List.range ops.size) :: k)) cs)) : Gs P main R D Stop F (G (b.at a (.code (.region id ops false) :: k)) cs) := Gs.go U rfl (fun _ _ => stepG_region) h
theorem Gs.regionEnd {ops : Array Oper} (U : Rule R D F) (h : Gs P main R D Stop F (G (b.at a k) cs)) : Gs P main R D Stop F (G (b.at a (.inRegion ops [] :: k)) cs) := Gs.go U rfl (fun _ _ => stepG_region_end) h
theorem Gs.end_ (U : Rule R D F) (h : Gs P main R D Stop F (G { b.at a [] with mode := .returning } cs)) : Gs P main R D Stop F (G (b.at a []) cs) := Gs.go U rfl (fun _ _ => stepG_end) h
theorem Gs.ret (U : Rule R D F) (h : Gs P main R D Stop F (G { b.at a (.code .ret :: k) with mode := .returning } cs)) : Gs P main R D Stop F (G (b.at a (.code .ret :: k)) cs) := Gs.go U rfl (fun _ _ => stepG_ret') h

/-- A 'go' of whatever shape, by its 'goes' law. -/
theorem Gs.goes {g g' : Goroutine} (U : Rule R D F) (hs : g.status = .running) (h : ∀ w, F w → ∀ K : Goroutine → World → Array Event → Prop, K g' w #[] → (stepG P main g w).goes K) (k : Gs P main R D Stop F g') : Gs P main R D Stop F g := by
  refine Gs.go U hs (fun w hw => ?_) k
  have := h w hw (fun x y z => x = g' ∧ y = w ∧ z = #[]) ⟨rfl, rfl, rfl⟩
  generalize stepG P main g w = s at this
  cases s with
  | go x y z => obtain ⟨rfl, rfl, rfl⟩ := this; rfl
  | _ => exact absurd this (by simp [GStep.goes])

section
variable {fn : Func} {todo : List Item} {b₀ : Frame} {a₀ : Act} {ops : Array Oper} {i : Nat} {rest : List Nat}
theorem Gs.leave1 {t : Tmp} (U : Rule R D F) (hn : b.kind = .normal) (hd : a.defers = []) (hf : P.funcs[b.fn]? = some fn) (hr : fn.results = #[.tmp t])
    (h : Gs P main R D Stop F (G (b₀.at (a₀.put ((ops[i]?).bind (·.dst)) (a.tmps.getD t undef)) (.inRegion ops rest :: k)) cs)) :
    Gs P main R D Stop F (G { b.at a todo with mode := .returning } (b₀.at a₀ (.inRegion ops (i :: rest) :: k) :: cs)) := Gs.goes U rfl (fun _ _ _ hK => goes_leave1 hn hd hf hr hK) h
theorem Gs.leave0 (U : Rule R D F) (hn : b.kind = .normal) (hd : a.defers = []) (hf : P.funcs[b.fn]? = some fn) (hr : fn.results = #[])
    (h : Gs P main R D Stop F (G (b₀.at (a₀.put ((ops[i]?).bind (·.dst)) (.tuple #[])) (.inRegion ops rest :: k)) cs)) :
    Gs P main R D Stop F (G { b.at a todo with mode := .returning } (b₀.at a₀ (.inRegion ops (i :: rest) :: k) :: cs)) := Gs.goes U rfl (fun _ _ _ hK => goes_leave0 hn hd hf hr hK) h
theorem Gs.call {o : Oper} {f : FuncId} {c : Code} {args : Array Operand} {ats : Array TypeId} (U : Rule R D F)
    (ho : ops[i]? = some o) (hw : Region.wanted o (yielded ops a.tmps) = true) (hk : b.kind ≠ .early) (hop : o.op = .call { callee := .value (.func f), args, argTypes := ats })
    (hf : P.funcs[f]? = some fn) (hname : (fn.name == "runtime.NumGoroutine") = false) (hb : fn.body = some c)
    (h : Gs P main R D Stop F (G ((base f).at { tmps := args.map a.eval ++ Array.replicate (fn.ntmps - (args.map a.eval).size) undef, defers := [] } [.code c]) (b.at a (.inRegion ops (i :: rest) :: k) :: cs))) :
    Gs P main R D Stop F (G (b.at a (.inRegion ops (i :: rest) :: k)) cs) := Gs.goes U rfl (fun _ _ _ hK => goes_call ho hw hk hop hf hname hb hK) h
theorem Gs.unwanted {o : Oper} (U : Rule R D F) (ho : ops[i]? = some o) (hw : Region.wanted o (yielded ops a.tmps) = false)
    (h : Gs P main R D Stop F (G (b.at (a.put o.dst undef) (.inRegion ops rest :: k)) cs)) : Gs P main R D Stop F (G (b.at a (.inRegion ops (i :: rest) :: k)) cs) := Gs.go U rfl (fun _ _ => stepG_unwanted ho hw) h
/-- An operation that yields a value, leaves the world, and lists nothing. -/
theorem Gs.val {o : Oper} {v : Value} (U : Rule R D F) (ho : ops[i]? = some o) (hw : Region.wanted o (yielded ops a.tmps) = true) (hk : b.kind ≠ .early)
    (hr : ∀ w, F w → (execOp a.eval o).run P w = .ok (.value v) w) (he : ∀ w, F w → (execOp a.eval o).events P w #[] = #[])
    (h : Gs P main R D Stop F (G (b.at (a.put o.dst v) (.inRegion ops rest :: k)) cs)) : Gs P main R D Stop F (G (b.at a (.inRegion ops (i :: rest) :: k)) cs) :=
  Gs.go U rfl (fun w hF => by rw [stepG_value ho hw hk (hr w hF)]; unfold listed; rw [he w hF, seen_none]) h
theorem Gs.none_ {o : Oper} (U : Rule R D F) (ho : ops[i]? = some o) (hw : Region.wanted o (yielded ops a.tmps) = true) (hk : b.kind ≠ .early)
    (hr : ∀ w, F w → (execOp a.eval o).run P w = .ok .skip w) (he : ∀ w, F w → (execOp a.eval o).events P w #[] = #[])
    (h : Gs P main R D Stop F (G (b.at (a.put o.dst undef) (.inRegion ops rest :: k)) cs)) : Gs P main R D Stop F (G (b.at a (.inRegion ops (i :: rest) :: k)) cs) :=
  Gs.go U rfl (fun w hF => by rw [stepG_none ho hw hk (hr w hF)]; unfold listed; rw [he w hF, seen_none]) h
/-- A read that lists one access. -/
theorem Gs.read {o : Oper} {v : Value} (U : Rule R D F) (ho : ops[i]? = some o) (hw : Region.wanted o (yielded ops a.tmps) = true) (hk : b.kind ≠ .early)
    (hr : ∀ w, F w → (execOp a.eval o).run P w = .ok (.value v) w) (he : ∀ w, F w → D w w (listed P b.fn a o w))
    (h : Gs P main R D Stop F (G (b.at (a.put o.dst v) (.inRegion ops rest :: k)) cs)) : Gs P main R D Stop F (G (b.at a (.inRegion ops (i :: rest) :: k)) cs) :=
  Gs.step U rfl (fun w hF => ⟨w, _, stepG_value ho hw hk (hr w hF), he w hF, hF⟩) h
end

/-- It comes to its stop. -/
def Runs (P : Program) (main : Bool) (R : World → World → Prop) (D : World → World → Array Event → Prop) (Stop : Goroutine → World → Prop) (g : Goroutine) (w : World) : Prop := ∃ m, Goes P main R D Stop m g w
theorem Gs.runs {g : Goroutine} (h : Gs P main R D Stop F g) {w : World} (hw : F w) : Runs P main R D Stop g w := let ⟨n, h⟩ := h; ⟨n, h w hw⟩
end
end Go.Proofs.Ytnikfjfcbpeieaa.Lk
end
section
namespace Go.Proofs.Ytnikfjfcbpeieaa.Lk
open Go Go.Conc Go.RowKit
open Go.ConcR (KK wgBlock WgAt stA smA rd wr mk)
open Go.ConcR.Gen
set_option linter.unusedVariables false
set_option linter.unusedSimpArgs false
theorem nm73 : (Try.f73.name == "runtime.NumGoroutine") = false := by kernel_rfl
theorem nm99 : (Try.f99.name == "runtime.NumGoroutine") = false := by kernel_rfl
theorem nm101 : (Try.f101.name == "runtime.NumGoroutine") = false := by kernel_rfl
theorem nm102 : (Try.f102.name == "runtime.NumGoroutine") = false := by kernel_rfl
theorem nm109 : (Try.f109.name == "runtime.NumGoroutine") = false := by kernel_rfl
theorem x92_n : (Try.f92.name == "runtime.NumGoroutine") = false := by kernel_rfl
theorem x92_b : Try.f92.body.isNone = true := by kernel_rfl
theorem x92_x : Extern.findNext Try.f92 = none := by kernel_rfl
theorem x92_f : Extern.find Try.f92 = some (Extern.Race.marked .releaseMerge) := by kernel_rfl
theorem x93_n : (Try.f93.name == "runtime.NumGoroutine") = false := by kernel_rfl
theorem x93_b : Try.f93.body.isNone = true := by kernel_rfl
theorem x93_x : Extern.findNext Try.f93 = none := by kernel_rfl
theorem x93_f : Extern.find Try.f93 = some (fun _ => do mark .disable; pure Extern.Race.none_) := by kernel_rfl
theorem x94_n : (Try.f94.name == "runtime.NumGoroutine") = false := by kernel_rfl
theorem x94_b : Try.f94.body.isNone = true := by kernel_rfl
theorem x94_x : Extern.findNext Try.f94 = none := by kernel_rfl
theorem x94_f : Extern.find Try.f94 = some (fun _ => do mark .enable; pure Extern.Race.none_) := by kernel_rfl
theorem x95_n : (Try.f95.name == "runtime.NumGoroutine") = false := by kernel_rfl
theorem x95_b : Try.f95.body.isNone = true := by kernel_rfl
theorem x95_x : Extern.findNext Try.f95 = none := by kernel_rfl
theorem x95_f : Extern.find Try.f95 = some (fun _ => pure (.bool false)) := by kernel_rfl
theorem x107_n : (Try.f107.name == "runtime.NumGoroutine") = false := by kernel_rfl
theorem x107_b : Try.f107.body.isNone = true := by kernel_rfl
theorem x107_x : Extern.findNext Try.f107 = none := by kernel_rfl
theorem x107_f : Extern.find Try.f107 = some (Extern.Race.marked .acquire) := by kernel_rfl
theorem x100_n : (Try.f100.name == "runtime.NumGoroutine") = false := by kernel_rfl
theorem x100_b : Try.f100.body.isNone = true := by kernel_rfl
theorem x100_x : Extern.findNext Try.f100 = none := by kernel_rfl
theorem x100_f : Extern.find Try.f100 = some (Extern.Race.marked .read) := by kernel_rfl
theorem x110_n : (Try.f110.name == "runtime.NumGoroutine") = false := by kernel_rfl
theorem x110_b : Try.f110.body.isNone = true := by kernel_rfl
theorem x110_x : Extern.findNext Try.f110 = none := by kernel_rfl
theorem x110_f : Extern.find Try.f110 = some (Extern.Race.marked .write) := by kernel_rfl
theorem x104_n : (Try.f104.name == "runtime.NumGoroutine") = false := by kernel_rfl
theorem x104_b : Try.f104.body.isNone = true := by kernel_rfl
theorem x104_x : Extern.findNext Try.f104 = none := by kernel_rfl
theorem x104_f : Extern.find Try.f104 = some (Extern.Sync.semrelease) := by kernel_rfl
theorem x111_n : (Try.f111.name == "runtime.NumGoroutine") = false := by kernel_rfl
theorem x111_b : Try.f111.body.isNone = true := by kernel_rfl
theorem x111_x : Extern.findNext Try.f111 = none := by kernel_rfl
theorem x111_f : Extern.find Try.f111 = some (Extern.Sync.semacquire) := by kernel_rfl
theorem x118_n : (Try.f118.name == "runtime.NumGoroutine") = false := by kernel_rfl
theorem x118_b : Try.f118.body.isNone = true := by kernel_rfl
theorem x118_x : Extern.findNext Try.f118 = none := by kernel_rfl
theorem x118_f : Extern.find Try.f118 = some (Extern.Atomic.update (Op.intArith .add) .u64 true) := by kernel_rfl
theorem x119_n : (Try.f119.name == "runtime.NumGoroutine") = false := by kernel_rfl
theorem x119_b : Try.f119.body.isNone = true := by kernel_rfl
theorem x119_x : Extern.findNext Try.f119 = none := by kernel_rfl
theorem x119_f : Extern.find Try.f119 = some (Extern.Atomic.loadT (.int .u64)) := by kernel_rfl
theorem x120_n : (Try.f120.name == "runtime.NumGoroutine") = false := by kernel_rfl
theorem x120_b : Try.f120.body.isNone = true := by kernel_rfl
theorem x120_x : Extern.findNext Try.f120 = none := by kernel_rfl
theorem x120_f : Extern.find Try.f120 = some (Extern.Atomic.storeT) := by kernel_rfl
theorem x123_n : (Try.f123.name == "runtime.NumGoroutine") = false := by kernel_rfl
theorem x123_b : Try.f123.body.isNone = true := by kernel_rfl
theorem x123_x : Extern.findNext Try.f123 = none := by kernel_rfl
theorem x123_f : Extern.find Try.f123 = some (Extern.Atomic.casT (.int .u64)) := by kernel_rfl
theorem x115_n : (Try.f115.name == "runtime.NumGoroutine") = false := by kernel_rfl
theorem x115_b : Try.f115.body.isNone = true := by kernel_rfl
theorem x115_x : Extern.findNext Try.f115 = none := by kernel_rfl
theorem x115_f : Extern.find Try.f115 = some (Extern.Atomic.update (Op.intArith .add) .u32 true) := by kernel_rfl
theorem x116_n : (Try.f116.name == "runtime.NumGoroutine") = false := by kernel_rfl
theorem x116_b : Try.f116.body.isNone = true := by kernel_rfl
theorem x116_x : Extern.findNext Try.f116 = none := by kernel_rfl
theorem x116_f : Extern.find Try.f116 = some (Extern.Atomic.loadT (.int .u32)) := by kernel_rfl
theorem room108 : (Try.prog.info? 108).map (fun i => decide (i.size = 0)) = some false := by kernel_rfl
theorem room78 : (Try.prog.info? 78).map (fun i => decide (i.size = 0)) = some false := by kernel_rfl

/-! ### it only leaves -/
def Qs (P : Program) (d : Nat) (g : Goroutine) : Prop := ∃ q, QuitsD P q d g
section
variable {P : Program} {d : Nat} {b : Frame} {a : Act} {k : List Item} {cs : List Frame}
theorem Qs.ctl {g g' : Goroutine} (hs : g.status = .running) (h : ∀ w, stepG P false g w = .go g' w) (k : Qs P d g') : Qs P d g := let ⟨q, k⟩ := k; ⟨q + 1, QuitsD.ctl hs h k⟩
theorem Qs.skip (h : Qs P d (G (b.at a k) cs)) : Qs P d (G (b.at a (.code .skip :: k)) cs) := Qs.ctl rfl (fun _ => stepG_skip) h
theorem Qs.inBlock {id : Nat} (h : Qs P d (G (b.at a k) cs)) : Qs P d (G (b.at a (.inBlock id :: k)) cs) := Qs.ctl rfl (fun _ => stepG_inBlock) h
theorem Qs.seq {x y : Code} (h : Qs P d (G (b.at a (.code x :: .code y :: k)) cs)) : Qs P d (G (b.at a (.code (.seq x y) :: k)) cs) := Qs.ctl rfl (fun _ => stepG_seq) h
theorem Qs.cond {c : Operand} {x y : Code} (t : Bool) (e : a.eval c = .bool t) (h : Qs P d (G (b.at a (.code (if t then x else y) :: k)) cs)) : Qs P d (G (b.at a (.code (.cond c x y) :: k)) cs) := Qs.ctl rfl (fun _ => stepG_cond e) h
theorem Qs.block {id : Nat} {c : Code} (h : Qs P d (G (b.at a (.code c :: .inBlock id :: k)) cs)) : Qs P d (G (b.at a (.code (.block id c) :: k)) cs) := Qs.ctl rfl (fun _ => stepG_block) h
theorem Qs.loop {c : Code} (h : Qs P d (G (b.at a (.code c :: .inLoop c :: k)) cs)) : Qs P d (G (b.at a (.code (.loop c) :: k)) cs) := Qs.ctl rfl (fun _ => stepG_loop) h
theorem Qs.inLoop {c : Code} (h : Qs P d (G (b.at a (.code c :: .inLoop c :: k)) cs)) : Qs P d (G (b.at a (.inLoop c :: k)) cs) := Qs.ctl rfl (fun _ => stepG_inLoop) h
theorem Qs.exit {id : Nat} {k' : List Item} (e : exitTo id k = some k') (h : Qs P d (G (b.at a k') cs)) : Qs P d (G (b.at a (.code (.exit id) :: k)) cs) := Qs.ctl rfl (fun _ => stepG_exit e) h
theorem Qs.region {id : Nat} {ops : Array Oper} (h : Qs P d (G (b.at a (.inRegion ops (List.range ops.size) :: k)) cs)) : Qs P d (G (b.at a (.code (.region id ops false) :: k)) cs) := Qs.ctl rfl (fun _ => stepG_region) h
theorem Qs.regionEnd {ops : Array Oper} (h : Qs P d (G (b.at a k) cs)) : Qs P d (G (b.at a (.inRegion ops [] :: k)) cs) := Qs.ctl rfl (fun _ => stepG_region_end) h
theorem Qs.end_ (h : Qs P d (G { b.at a [] with mode := .returning } cs)) : Qs P d (G (b.at a []) cs) := Qs.ctl rfl (fun _ => stepG_end) h
theorem Qs.ret (h : Qs P d (G { b.at a (.code .ret :: k) with mode := .returning } cs)) : Qs P d (G (b.at a (.code .ret :: k)) cs) := Qs.ctl rfl (fun _ => stepG_ret') h
variable {fn : Func} {todo : List Item} {b₀ : Frame} {a₀ : Act} {ops : Array Oper} {i : Nat} {rest : List Nat}
theorem Qs.unwanted {o : Oper} (ho : ops[i]? = some o) (hw : Region.wanted o (yielded ops a.tmps) = false) (h : Qs P d (G (b.at (a.put o.dst undef) (.inRegion ops rest :: k)) cs)) : Qs P d (G (b.at a (.inRegion ops (i :: rest) :: k)) cs) := Qs.ctl rfl (fun _ => stepG_unwanted ho hw) h
theorem Qs.val {o : Oper} {v : Value} (ho : ops[i]? = some o) (hw : Region.wanted o (yielded ops a.tmps) = true) (hk : b.kind ≠ .early)
    (hr : ∀ w, (execOp a.eval o).run P w = .ok (.value v) w) (he : ∀ w, (execOp a.eval o).events P w #[] = #[]) (h : Qs P d (G (b.at (a.put o.dst v) (.inRegion ops rest :: k)) cs)) : Qs P d (G (b.at a (.inRegion ops (i :: rest) :: k)) cs) :=
  let ⟨q, h⟩ := h; ⟨q + 1, QuitsD.value v ho hw hk hr he h⟩
theorem Qs.leave1 {t : Tmp} (hn : b.kind = .normal) (hd : a.defers = []) (hf : P.funcs[b.fn]? = some fn) (hr : fn.results = #[.tmp t])
    (h : Qs P d (G (b₀.at (a₀.put ((ops[i]?).bind (·.dst)) (a.tmps.getD t undef)) (.inRegion ops rest :: k)) cs)) : Qs P d (G { b.at a todo with mode := .returning } (b₀.at a₀ (.inRegion ops (i :: rest) :: k) :: cs)) := let ⟨q, h⟩ := h; ⟨q + 1, QuitsD.leave1 hn hd hf hr h⟩
theorem Qs.leave0 (hn : b.kind = .normal) (hd : a.defers = []) (hf : P.funcs[b.fn]? = some fn) (hr : fn.results = #[])
    (h : Qs P d (G (b₀.at (a₀.put ((ops[i]?).bind (·.dst)) (.tuple #[])) (.inRegion ops rest :: k)) cs)) : Qs P d (G { b.at a todo with mode := .returning } (b₀.at a₀ (.inRegion ops (i :: rest) :: k) :: cs)) := let ⟨q, h⟩ := h; ⟨q + 1, QuitsD.leave0 hn hd hf hr h⟩
theorem Qs.leaveD {c : Frame} (hn : b.kind = .deferred) (hd : a.defers = []) (hf : P.funcs[b.fn]? = some fn) (hr : fn.results = #[]) (hc : c.mode = .returning) (h : Qs P d (G c cs)) : Qs P d (G { b.at a todo with mode := .returning } (c :: cs)) := let ⟨q, h⟩ := h; ⟨q + 1, QuitsD.leaveD hn hd hf hr hc h⟩
end
theorem Qs.enable {b : Frame} {a : Act} {cs : List Frame} {todo : List Item} {ds : List Deferred} (hd : a.defers = dcall 94 #[] :: ds) (h : Qs Try.prog 0 (G { b.at ⟨a.tmps, ds⟩ todo with mode := .returning } cs)) : Qs Try.prog 1 (G { b.at a todo with mode := .returning } cs) :=
  let ⟨q, h⟩ := h; ⟨q + 1, QuitsD.unwind_mark .enable rfl (by simp) hd Try.func94 x94_n x94_b x94_x x94_f h⟩

/-! ### the stops of a worker on its way out -/
def Sil (w w' : World) (es : Array Event) : Prop := w' = w ∧ es = #[]
def Live (Wg : Nat) (w : World) : Prop := ∃ st sm, WgAt 108 Wg w st sm
section
variable (R : World → World → Prop) (Wg : Nat)
def S4 (g : Goroutine) (w : World) : Prop :=
  g.status = .running ∧ mayWake Try.prog g = true ∧ (WgAt 108 Wg w 0 0 → ∃ g', stepG Try.prog false g w = .go g' (w.setCell (smA Wg) (.int .u32 1)) (semEvents (smA Wg)) ∧ Qs Try.prog 1 g')
def S3 (g : Goroutine) (w : World) : Prop :=
  g.status = .running ∧ (WgAt 108 Wg w 1 0 → ∃ g', stepG Try.prog false g w = .go g' (w.setCell (stA Wg) (.int .u64 0)) #[wr (stA Wg)] ∧ Runs Try.prog false R Sil (S4 Wg) g' (w.setCell (stA Wg) (.int .u64 0)))
def S2 (g : Goroutine) (w : World) : Prop :=
  g.status = .running ∧ (WgAt 108 Wg w 1 0 → ∃ g', stepG Try.prog false g w = .go g' w #[rd (stA Wg)] ∧ Runs Try.prog false R Sil (S3 R Wg) g' w)
def S1 (g : Goroutine) (w : World) : Prop :=
  g.status = .running ∧ ∀ v wt : Nat, v ≤ 1 → wt ≤ 1 → WgAt 108 Wg w ((v + 1 : Nat) * KK + wt) 0 →
    ∃ g', stepG Try.prog false g w = .go g' (w.setCell (stA Wg) (.int .u64 (v * KK + wt))) #[rd (stA Wg), wr (stA Wg)] ∧
      ((v = 0 ∧ wt = 1) → Runs Try.prog false R Sil (S2 R Wg) g' (w.setCell (stA Wg) (.int .u64 (v * KK + wt)))) ∧ (¬ (v = 0 ∧ wt = 1) → Qs Try.prog 1 g')
def SK (g : Goroutine) (w : World) : Prop := g.status = .running ∧ ∃ g', stepG Try.prog false g w = .go g' w #[mk .disable] ∧ Runs Try.prog false R Sil (S1 R Wg) g' w
def SR (g : Goroutine) (w : World) : Prop := g.status = .running ∧ ∃ g', stepG Try.prog false g w = .go g' w #[mk (.releaseMerge (stA Wg))] ∧ Runs Try.prog false R Sil (SK R Wg) g' w
end
structure MRule (Wg : Nat) (R : World → World → Prop) (D : World → World → Array Event → Prop) (F : World → Prop) : Prop extends Rule R D F where
  live : ∀ w, F w → Live Wg w
  st : ∀ w v, F w → F (w.setCell (stA Wg) (.int .u64 v))
  sm : ∀ w v, F w → F (w.setCell (smA Wg) (.int .u32 v))
  sayr : ∀ w, F w → D w w #[⟨.mark (.read ⟨Wg, 1, none⟩), false, true⟩]
  sayw : ∀ w, F w → D w w #[⟨.mark (.write ⟨Wg, 1, none⟩), false, true⟩]
noncomputable def c73 : Code := Try.f73.body.getD .skip
noncomputable def c77 : Code := Try.f77.body.getD .skip
def cR : Code → Code | .seq _ b => b | c => c
def cB : Code → Code | .block _ c => c | c => c
def cLp : Code → Code | .loop c => c | c => c
noncomputable def L77 : Code := cLp (cB (cR c77))
section
variable (R : World → World → Prop) (D : World → World → Array Event → Prop) (Wg : Nat) (Stop : Goroutine → World → Prop)
def MKe (g : Goroutine) (w : World) : Prop := g.status = .running ∧ ∃ g', stepG Try.prog true g w = .go g' w #[mk .enable] ∧ Runs Try.prog true R D Stop g' w
def MA (g : Goroutine) (w : World) : Prop :=
  g.status = .running ∧ ∀ v : Nat, v ≤ 1 → WgAt 108 Wg w ((v : Nat) * KK) 0 → ∃ g', stepG Try.prog true g w = .go g' (w.setCell (stA Wg) (.int .u64 ((v + 1 : Nat) * KK))) #[rd (stA Wg), wr (stA Wg)] ∧ Runs Try.prog true R D (MKe R D Stop) g' (w.setCell (stA Wg) (.int .u64 ((v + 1 : Nat) * KK)))
def MKd (g : Goroutine) (w : World) : Prop := g.status = .running ∧ ∃ g', stepG Try.prog true g w = .go g' w #[mk .disable] ∧ Runs Try.prog true R D (MA R D Wg Stop) g' w
def WAcq (g : Goroutine) (w : World) : Prop := g.status = .running ∧ ∃ g', stepG Try.prog true g w = .go g' w #[mk (.acquire (stA Wg))] ∧ Runs Try.prog true R D Stop g' w
def WKe (g : Goroutine) (w : World) : Prop := g.status = .running ∧ ∃ g', stepG Try.prog true g w = .go g' w #[mk .enable] ∧ Runs Try.prog true R D (WAcq R D Wg Stop) g' w
def W4 (g : Goroutine) (w : World) : Prop := g.status = .running ∧ (WgAt 108 Wg w 0 0 → ∃ g', stepG Try.prog true g w = .go g' w #[rd (stA Wg)] ∧ Runs Try.prog true R D (WKe R D Wg Stop) g' w)
def W3 (g : Goroutine) (w : World) : Prop :=
  g.status = .running ∧ g.offers = none ∧ ((∃ st, WgAt 108 Wg w st 0) → stepG Try.prog true g w = .go { g with status := .blocked } w #[]) ∧
    (WgAt 108 Wg w 0 1 → ∃ g', stepG Try.prog true g w = .go g' (w.setCell (smA Wg) (.int .u32 0)) (semEvents (smA Wg)) ∧ Runs Try.prog true R D (W4 R D Wg Stop) g' (w.setCell (smA Wg) (.int .u32 0)))
/-- The CompareAndSwap, 'vs' having been seen: it hits, or misses, and all begins anew. -/
def W2 (Miss : Goroutine → World → Prop) (vs : Nat) (g : Goroutine) (w : World) : Prop :=
  g.status = .running ∧ ∀ v : Nat, v ≤ 2 → WgAt 108 Wg w ((v : Nat) * KK) 0 →
    (v = vs → ∃ g', stepG Try.prog true g w = .go g' (w.setCell (stA Wg) (.int .u64 ((v : Nat) * KK + 1))) #[rd (stA Wg), wr (stA Wg)] ∧ Runs Try.prog true R D (W3 R D Wg Stop) g' (w.setCell (stA Wg) (.int .u64 ((v : Nat) * KK + 1)))) ∧
    (v ≠ vs → ∃ g', stepG Try.prog true g w = .go g' w #[rd (stA Wg)] ∧ Runs Try.prog true R D Miss g' w)
/-- The load at the loop's head: n are counted at most. -/
def W1 : Nat → Goroutine → World → Prop
  | 0, g, w => g.status = .running ∧ (WgAt 108 Wg w 0 0 → ∃ g', stepG Try.prog true g w = .go g' w #[rd (stA Wg)] ∧ Runs Try.prog true R D (WKe R D Wg Stop) g' w)
  | n + 1, g, w => g.status = .running ∧ ∀ v : Nat, v ≤ n + 1 → v ≤ 2 → WgAt 108 Wg w ((v : Nat) * KK) 0 → ∃ g', stepG Try.prog true g w = .go g' w #[rd (stA Wg)] ∧
      (v = 0 → Runs Try.prog true R D (WKe R D Wg Stop) g' w) ∧ (v ≠ 0 → Runs Try.prog true R D (W2 R D Wg Stop (W1 n) v) g' w)
def WKd (g : Goroutine) (w : World) : Prop := g.status = .running ∧ ∃ g', stepG Try.prog true g w = .go g' w #[mk .disable] ∧ Runs Try.prog true R D (W1 R D Wg Stop 2) g' w
end
theorem live_st {Wg : Nat} {w : World} (h : Live Wg w) (v : Int) : Live Wg (w.setCell (stA Wg) (.int .u64 v)) := let ⟨_, _, h⟩ := h; ⟨_, _, h.setSt v⟩
theorem live_sm {Wg : Nat} {w : World} (h : Live Wg w) (v : Int) : Live Wg (w.setCell (smA Wg) (.int .u32 v)) := let ⟨_, _, h⟩ := h; ⟨_, _, h.setSm v⟩
end Go.Proofs.Ytnikfjfcbpeieaa.Lk
end
section
namespace Go.Proofs.Ytnikfjfcbpeieaa.Lk
open Go Go.Conc
open Go.ConcN (PermW PermW.of PermW.app fork_knows RelBy Deaf_still)
open Go.ConcR (stA)
set_option linter.unusedVariables false
set_option linter.unusedSimpArgs false

section
variable (S : Nat → Prop) (Wg nb K : Nat) (Low : Nat → Nat)

def OfW (l : Loc) : Prop := ∃ a, l = .cell a ∧ (a.block = Wg ∨ a.block = nb)
/-- What stood when a worker was started, and is not shared. -/
def RdW (n : Nat) (l : Loc) : Prop := ∃ a, l = .cell a ∧ a.block < n ∧ a.block ≠ Wg ∧ a.block ≠ nb ∧ ¬ S a.block

structure Mid (B j : Nat) (t : Trace) : Prop where
  clean : ∀ said, ¬ Race said t
  quiet : ∀ i a, touchAt t i = some a → OfW Wg nb a.loc → a.kind ≠ .plain
  known : ∀ i a, touchAt t i = some a → a.loc.isMemory = true → Knows t 0 i ∨ (ShB S a.loc ∧ a.kind = .atomic) ∨
    ∃ i', i' < j ∧ t.g? i = some (K + i') ∧ ((OfW Wg nb a.loc ∧ a.kind = .atomic) ∨ (RdW S Wg nb (Low i') a.loc ∧ a.write = false ∧ a.kind = .plain))
  rd : ∀ i, i < j → ∀ l, RdW S Wg nb (Low i) l → PermW t (K + i) l
  over : ∀ i g, t.g? i = some g → g ≠ 0 → t.counts i → (∃ q, t.g? q = some 0 ∧ HappensBefore t i q) ∨ ∃ i', i' < j ∧ g = K + i'
  norel : NoRelease (stA Wg) t
  seen : ∀ op ∈ t, op.act.low B

/-- What goroutine 0 may do while j workers are started. -/
def OkM (B j : Nat) (x : MemAct) : Prop :=
  (∀ y, x.touch? = some y → (OfW Wg nb y.loc ∧ y.kind ≠ .plain) ∨ (¬ OfW Wg nb y.loc ∧ (ShB S y.loc → y.kind ≠ .plain) ∧ (y.write = true → ∀ i, i < j → ¬ RdW S Wg nb (Low i) y.loc))) ∧ x ≠ .mark (.release (stA Wg)) ∧ x.low B
/-- What worker i may do. -/
def OkK (B i : Nat) (x : MemAct) : Prop :=
  (∀ y, x.touch? = some y → (OfW Wg nb y.loc ∧ y.kind = .atomic) ∨ (RdW S Wg nb (Low i) y.loc ∧ y.write = false ∧ y.kind = .plain)) ∧ x ≠ .mark (.release (stA Wg)) ∧ x.low B
end

section
variable {S : Nat → Prop} {Wg nb K : Nat} {Low : Nat → Nat} {B j : Nat} {t u : Trace}

theorem rdW_not_ofW {n : Nat} {l : Loc} (h : RdW S Wg nb n l) : ¬ OfW Wg nb l := by
  obtain ⟨a, rfl, _, h1, h2, _⟩ := h
  rintro ⟨b, e, h⟩
  cases e
  exact h.elim h1 h2
theorem rdW_not_sh {n : Nat} {l : Loc} (h : RdW S Wg nb n l) : ¬ ShB S l := by
  obtain ⟨a, rfl, _, _, _, h1⟩ := h
  rintro ⟨b, e, h⟩
  cases e
  exact h1 h

theorem Mid.mono {B' : Nat} (h : Mid S Wg nb K Low B j t) (hB : B ≤ B') : Mid S Wg nb K Low B' j t := ⟨h.clean, h.quiet, h.known, h.rd, h.over, h.norel, fun op hop => MemAct.low_mono hB (h.seen op hop)⟩

theorem g?_app {i : Nat} (h : i < t.size) : (t ++ u).g? i = t.g? i := by simp [Trace.g?, getElem?_append_old h]
theorem lt_of_touchAt {i : Nat} {a : Touch} (h : touchAt t i = some a) : i < t.size := by
  obtain ⟨x, hx, _⟩ := touch_of h
  exact lt_size_of_getElem? hx

/-- What is known of the old touches stays known. -/
theorem Mid.known_old (h : Mid S Wg nb K Low B j t) {i : Nat} {a : Touch} {x : MemOp} (hx : t[i]? = some x) (hxa : x.act.touch? = some a) (hm : a.loc.isMemory = true) :
    Knows (t ++ u) 0 i ∨ (ShB S a.loc ∧ a.kind = .atomic) ∨ ∃ i', i' < j ∧ (t ++ u).g? i = some (K + i') ∧ ((OfW Wg nb a.loc ∧ a.kind = .atomic) ∨ (RdW S Wg nb (Low i') a.loc ∧ a.write = false ∧ a.kind = .plain)) := by
  have hi := lt_size_of_getElem? hx
  rcases h.known i a (by rw [touchAt_of hx]; exact hxa) hm with h1 | h1 | ⟨i', h1, h2, h3⟩
  · exact .inl (h1.app u)
  · exact .inr (.inl h1)
  · exact .inr (.inr ⟨i', h1, by rw [g?_app hi]; exact h2, h3⟩)

theorem over_old (h : Mid S Wg nb K Low B j t) {j' : Nat} (hj : j ≤ j') {i g : Nat} (hi : i < t.size) (hg : (t ++ u).g? i = some g) (hne : g ≠ 0) (hc : (t ++ u).counts i) :
    (∃ q, (t ++ u).g? q = some 0 ∧ HappensBefore (t ++ u) i q) ∨ ∃ i', i' < j' ∧ g = K + i' := by
  rcases h.over i g (by rw [← g?_app hi]; exact hg) hne ((counts_old hi).1 hc) with ⟨q, h1, h2⟩ | ⟨i', h1, h2⟩
  · have hq : q < t.size := by
      unfold Trace.g? at h1
      obtain ⟨z, hz, _⟩ := Option.map_eq_some_iff.1 h1
      exact lt_size_of_getElem? hz
    exact .inl ⟨q, by rw [g?_app hq]; exact h1, hb_app u h2⟩
  · exact .inr ⟨i', by omega, h2⟩

theorem op_of_g {i g : Nat} (hg : t.g? i = some g) : ∃ op, t[i]? = some op ∧ op.g = g := by
  unfold Trace.g? at hg
  exact Option.map_eq_some_iff.1 hg

theorem norel_app (h : NoRelease (stA Wg) t) (hu : ∀ op ∈ u, op.act ≠ .mark (.release (stA Wg))) : NoRelease (stA Wg) (t ++ u) := NoRelease.app h hu

/-- Goroutine 0's own. -/
theorem Mid.app0 (h : Mid S Wg nb K Low B j t) (hu : ∀ op ∈ u, op.g = 0) (hok : ∀ op ∈ u, OkM S Wg nb Low B j op.act) : Mid S Wg nb K Low B j (t ++ u) := by
  refine ⟨fun said => noRace_append (h.clean said) hu fun i a ha op hop b hb hc => ?_, fun i a ha ho => ?_, fun i a ha hm => ?_, fun i hi l hl => (h.rd i hi l hl).app fun op hop b hb e hw => ?_, fun i g hg hne hc => ?_,
    norel_app h.norel fun op hop => (hok op hop).2.1, seen_app h.seen fun op hop => (hok op hop).2.2⟩
  · obtain ⟨e, hm, hw, hk⟩ := hc
    rcases h.known i a ha hm with h1 | ⟨h1, h2⟩ | ⟨i', h1, h2, ⟨h3, h4⟩ | ⟨h3, h4, h5⟩⟩
    · exact h1
    · exfalso
      rw [h2] at hk
      have hb' : b.kind ≠ .plain := by
        rcases (hok op hop).1 b hb with ⟨_, h3⟩ | ⟨_, h3, _⟩
        · exact h3
        · exact h3 (e ▸ h1)
      rcases hk with x | x | ⟨_, x, _⟩
      · cases x
      · exact hb' x
      · cases x
    · exfalso
      rw [h4] at hk
      have hb' : b.kind ≠ .plain := by
        rcases (hok op hop).1 b hb with ⟨_, h5⟩ | ⟨h5, _⟩
        · exact h5
        · exact absurd (e ▸ h3) h5
      rcases hk with x | x | ⟨_, x, _⟩
      · cases x
      · exact hb' x
      · cases x
    · exfalso
      have hbw : b.write = true := by
        rw [h4] at hw
        simpa using hw
      rcases (hok op hop).1 b hb with ⟨h6, _⟩ | ⟨_, _, h6⟩
      · exact rdW_not_ofW h3 (e ▸ h6)
      · exact h6 hbw i' h1 (e ▸ h3)
  · obtain ⟨x, hx, hxa⟩ := touch_of ha
    rcases getElem?_append_cases hx with ⟨hi, hx'⟩ | ⟨_, hxu⟩
    · exact h.quiet i a (by rw [touchAt_of hx']; exact hxa) ho
    · rcases (hok x hxu).1 a hxa with ⟨_, h1⟩ | ⟨h1, _⟩
      · exact h1
      · exact absurd ho h1
  · obtain ⟨x, hx, hxa⟩ := touch_of ha
    rcases getElem?_append_cases hx with ⟨hi, hx'⟩ | ⟨_, hxu⟩
    · exact h.known_old hx' hxa hm
    · have := knows_own hx
      rw [hu x hxu] at this
      exact .inl this
  · rcases (hok op hop).1 b hb with ⟨h6, _⟩ | ⟨_, _, h6⟩
    · exact absurd (e ▸ h6) (rdW_not_ofW hl)
    · exact absurd (e ▸ hl) (h6 hw i hi)
  · obtain ⟨op, hop, hog⟩ := op_of_g hg
    rcases getElem?_append_cases hop with ⟨hi, _⟩ | ⟨_, hopu⟩
    · exact over_old h (Nat.le_refl j) hi hg hne hc
    · exact absurd (hog.symm.trans (hu op hopu)) hne

/-- Worker i's own. -/
theorem Mid.appW (h : Mid S Wg nb K Low B j t) {i : Nat} (hij : i < j) (hu : ∀ op ∈ u, op.g = K + i) (hok : ∀ op ∈ u, OkK S Wg nb Low B i op.act) : Mid S Wg nb K Low B j (t ++ u) := by
  refine ⟨fun said => noRace_append (h.clean said) hu fun p a ha op hop b hb hc => ?_, fun p a ha ho => ?_, fun p a ha hm => ?_, fun p hp l hl => (h.rd p hp l hl).app fun op hop b hb e hw => ?_, fun p g hg hne hc => ?_,
    norel_app h.norel fun op hop => (hok op hop).2.1, seen_app h.seen fun op hop => (hok op hop).2.2⟩
  · obtain ⟨e, hm, hw, hk⟩ := hc
    rcases (hok op hop).1 b hb with ⟨h1, h2⟩ | ⟨h1, h2, h3⟩
    · exfalso
      rw [h2] at hk
      rcases hk with x | x | ⟨_, _, x⟩
      · exact h.quiet p a ha (e ▸ h1) x
      · cases x
      · cases x
    · have haw : a.write = true := by
        rw [h2] at hw
        simpa using hw
      exact h.rd i hij b.loc h1 p a ha e haw
  · obtain ⟨x, hx, hxa⟩ := touch_of ha
    rcases getElem?_append_cases hx with ⟨hi, hx'⟩ | ⟨_, hxu⟩
    · exact h.quiet p a (by rw [touchAt_of hx']; exact hxa) ho
    · rcases (hok x hxu).1 a hxa with ⟨_, h1⟩ | ⟨h1, _⟩
      · rw [h1]; simp
      · exact absurd ho (rdW_not_ofW h1)
  · obtain ⟨x, hx, hxa⟩ := touch_of ha
    rcases getElem?_append_cases hx with ⟨hi, hx'⟩ | ⟨_, hxu⟩
    · exact h.known_old hx' hxa hm
    · exact .inr (.inr ⟨i, hij, by simp [Trace.g?, hx, hu x hxu], (hok x hxu).1 a hxa⟩)
  · rcases (hok op hop).1 b hb with ⟨h6, _⟩ | ⟨_, h6, _⟩
    · exact absurd (e ▸ h6) (rdW_not_ofW hl)
    · rw [h6] at hw; cases hw
  · obtain ⟨op, hop, hog⟩ := op_of_g hg
    rcases getElem?_append_cases hop with ⟨hi, _⟩ | ⟨_, hopu⟩
    · exact over_old h (Nat.le_refl j) hi hg hne hc
    · exact .inr ⟨i, hij, hog.symm.trans (hu op hopu)⟩

/-- What touches nothing. -/
theorem Mid.appMute (h : Mid S Wg nb K Low B j t) {g : Nat} (hu : ∀ op ∈ u, op.g = g) (hn : ∀ op ∈ u, op.act.touch? = none) (hr : ∀ op ∈ u, op.act ≠ .mark (.release (stA Wg))) (hl : ∀ op ∈ u, op.act.low B) : Mid S Wg nb K Low B j (t ++ u) := by
  refine ⟨fun said => noRace_append (h.clean said) hu fun i a _ op hop b hb _ => (by rw [hn op hop] at hb; cases hb), fun i a ha ho => ?_, fun i a ha hm => ?_, fun i hi l hl => (h.rd i hi l hl).app fun op hop b hb _ _ => (by rw [hn op hop] at hb; cases hb), fun i g' hg hne hc => ?_,
    norel_app h.norel hr, seen_app h.seen hl⟩
  · obtain ⟨x, hx, hxa⟩ := touch_of ha
    rcases getElem?_append_cases hx with ⟨hi, hx'⟩ | ⟨_, hxu⟩
    · exact h.quiet i a (by rw [touchAt_of hx']; exact hxa) ho
    · rw [hn x hxu] at hxa; cases hxa
  · obtain ⟨x, hx, hxa⟩ := touch_of ha
    rcases getElem?_append_cases hx with ⟨hi, hx'⟩ | ⟨_, hxu⟩
    · exact h.known_old hx' hxa hm
    · rw [hn x hxu] at hxa; cases hxa
  · obtain ⟨x, hx, _⟩ := hc
    obtain ⟨op, hop, hox⟩ := touch_of hx
    rcases getElem?_append_cases hop with ⟨hi, _⟩ | ⟨_, hopu⟩
    · exact over_old h (Nat.le_refl j) hi hg hne ⟨x, hx, ‹_›⟩
    · rw [hn op hopu] at hox; cases hox

/-- THE go STATEMENT. -/
theorem Mid.fork (h : Mid S Wg nb K Low B j t) {x y : MemOp} (hx : x.g = 0 ∧ x.act = .go (K + j)) (hy : y.g = K + j ∧ y.act = .start) (h0 : Deaf t 0 = 0) (hk : Deaf t (K + j) = 0) : Mid S Wg nb K Low B (j + 1) (t ++ #[x, y]) := by
  have hnt : ∀ op ∈ #[x, y], op.act.touch? = none := by
    intro op hop
    simp only [List.mem_toArray, List.mem_cons, List.not_mem_nil, or_false] at hop
    rcases hop with rfl | rfl
    · rw [hx.2]; rfl
    · rw [hy.2]; rfl
  have e : t ++ #[x, y] = (t ++ #[x]) ++ #[y] := by apply Array.ext'; simp
  have h1 : Mid S Wg nb K Low B j ((t ++ #[x]) ++ #[y]) :=
    (h.appMute (g := 0) (fun op hop => by simp at hop; rw [hop]; exact hx.1) (fun op hop => by simp at hop; rw [hop, hx.2]; rfl) (fun op hop => by simp at hop; rw [hop, hx.2]; simp) (fun op hop => by simp at hop; rw [hop, hx.2]; trivial)).appMute (g := K + j)
      (fun op hop => by simp at hop; rw [hop]; exact hy.1) (fun op hop => by simp at hop; rw [hop, hy.2]; rfl) (fun op hop => by simp at hop; rw [hop, hy.2]; simp) (fun op hop => by simp at hop; rw [hop, hy.2]; trivial)
  rw [← e] at h1
  refine ⟨h1.clean, h1.quiet, fun i a ha hm => ?_, fun i hi l hl => ?_, fun i g hg hne hc => ?_, h1.norel, h1.seen⟩
  · rcases h1.known i a ha hm with h | h | ⟨i', h2, h3, h4⟩
    · exact .inl h
    · exact .inr (.inl h)
    · exact .inr (.inr ⟨i', by omega, h3, h4⟩)
  · rcases Nat.lt_or_ge i j with hlt | hge
    · exact h1.rd i hlt l hl
    · obtain rfl : i = j := by omega
      intro p a ha el hw
      have hp : touchAt t p = some a := by
        obtain ⟨z, hz, hza⟩ := touch_of ha
        rcases getElem?_append_cases hz with ⟨hlt, hz'⟩ | ⟨_, hzu⟩
        · rw [touchAt_of hz']; exact hza
        · rw [hnt z hzu] at hza; cases hza
      refine fork_knows hx hy h0 hk ?_
      obtain ⟨ad, hla, _⟩ := hl
      rcases h.known p a hp (by rw [el, hla]; rfl) with h2 | ⟨h2, _⟩ | ⟨_, _, _, ⟨h2, _⟩ | ⟨_, h2, _⟩⟩
      · exact h2
      · exact absurd (el ▸ h2) (rdW_not_sh ⟨ad, hla, ‹_›⟩)
      · exact absurd (el ▸ h2) (rdW_not_ofW ⟨ad, hla, ‹_›⟩)
      · rw [h2] at hw; cases hw
  · rcases h1.over i g hg hne hc with h | ⟨i', h2, h3⟩
    · exact .inl h
    · exact .inr ⟨i', by omega, h3⟩

/-- THE BEGINNING: the two blocks are new. -/
theorem Mid.begin {B' : Nat} (h : Past (ShB S) B t) (hB : B ≤ B') (hW : B ≤ Wg) (hn : B ≤ nb) : Mid S Wg nb K Low B' 0 t := by
  have low : ∀ i a, touchAt t i = some a → OfW Wg nb a.loc → False := fun i a ha ⟨ad, e, hb⟩ => by
    obtain ⟨x, hx, hxa⟩ := touch_of ha
    have h1 := h.seen x (Array.mem_of_getElem? hx)
    have : ad.block < B := by
      cases hact : x.act with
      | access ev =>
        rw [hact] at h1 hxa
        obtain ⟨loc, wr, sy⟩ := ev
        cases loc <;> simp [MemAct.touch?] at hxa <;> (try (subst hxa; simp at e)) <;> (try (subst e; exact h1))
      | mark m =>
        rw [hact] at h1 hxa
        cases m <;> simp [MemAct.touch?] at hxa <;> (subst hxa; simp at e; subst e; exact h1)
      | _ => rw [hact] at hxa; simp [MemAct.touch?] at hxa
    omega
  refine ⟨h.clean, fun i a ha ho => (low i a ha ho).elim, fun i a ha hm => (h.known i a ha hm).imp id .inl, fun i hi => absurd hi (Nat.not_lt_zero i), fun i g hg hne hc => .inl (h.over i g hg hne hc), fun i hi => ?_, fun op hop => MemAct.low_mono hB (h.seen op hop)⟩
  obtain ⟨op, ho, hoa⟩ := Option.map_eq_some_iff.1 hi
  have := h.seen op (Array.mem_of_getElem? ho)
  rw [hoa] at this
  change Wg < B at this
  omega

/-- Goroutine 0 has said 'acquire', hearing, behind every worker's release. -/
def Acq (Wg K j : Nat) (t : Trace) : Prop :=
  ∃ q, t.act? q = some (.mark (.acquire (stA Wg))) ∧ t.g? q = some 0 ∧ t.heard q ∧ ∀ i, i < j → ∃ r, RelBy (stA Wg) t (K + i) r ∧ r < q

theorem Acq.app (h : Acq Wg K j t) (hu : ∀ i r, i < j → RelBy (stA Wg) t (K + i) r → RelBy (stA Wg) (t ++ u) (K + i) r) : Acq Wg K j (t ++ u) := by
  obtain ⟨q, h1, h2, h3, h4⟩ := h
  have hq := lt_of_act? h1
  exact ⟨q, by rw [act?_old hq]; exact h1, by rw [g?_app hq]; exact h2, (heard_old hq).2 h3, fun i hi => let ⟨r, hr, hrq⟩ := h4 i hi; ⟨r, hu i r hi hr, hrq⟩⟩

/-- THE END. -/
theorem Mid.end_ (h : Mid S Wg nb K Low B j t) (ha : Acq Wg K j t) (h0 : Deaf t 0 = 0) (hK : 0 < K) : Past (ShB fun b => S b ∨ b = Wg ∨ b = nb) B t := by
  obtain ⟨q, q1, q2, q3, q4⟩ := ha
  obtain ⟨z, hz, hzg⟩ := op_of_g q2
  have edge : ∀ i, i < j → ∀ p, t.g? p = some (K + i) → t.counts p → HappensBefore t p q := fun i hi p hp hc => by
    obtain ⟨r, hr, hrq⟩ := q4 i hi
    have e : HappensBefore t r q := .single (.inr ⟨.marked hrq (.inr hr.act) q1 (fun k _ _ => h.norel k), hr.heard, q3⟩)
    have hle : p ≤ r := Nat.le_of_not_lt fun hlt => hr.after p hlt hp hc
    rcases Nat.lt_or_ge p r with hlt | hge
    · exact .trans (.single (.inl ⟨hlt, K + i, hp, hr.g⟩)) e
    · obtain rfl : p = r := by omega
      exact e
  refine ⟨h.clean, fun i a hta hm => ?_, fun i g hg hne hc => ?_, h0, h.seen⟩
  · rcases h.known i a hta hm with h1 | ⟨⟨ad, e, hs⟩, h2⟩ | ⟨i', h1, h2, ⟨⟨ad, e, hs⟩, h3⟩ | ⟨_, _, h3⟩⟩
    · exact .inl h1
    · exact .inr ⟨⟨ad, e, .inl hs⟩, h2⟩
    · exact .inr ⟨⟨ad, e, .inr hs⟩, h3⟩
    · exact .inl ⟨q, z, hz, hzg, .inr (edge i' h1 i h2 ⟨a, hta, hm, .inl (by rw [h3]; simp)⟩)⟩
  · rcases h.over i g hg hne hc with h1 | ⟨i', h1, rfl⟩
    · exact h1
    · exact ⟨q, q2, edge i' h1 i hg hc⟩
end
end Go.Proofs.Ytnikfjfcbpeieaa.Lk
end
section
namespace Go.Proofs.Ytnikfjfcbpeieaa.Lk
open Go Go.Conc
open Go.ConcN (sumTo upd sumTo_upd upd_ne upd_same sumTo_congr RelBy cell_of_block)
open Go.ConcR (KK wgBlock WgAt stA smA rd wr mk)
set_option linter.unusedVariables false
set_option linter.unusedSimpArgs false

def CntAt (nb : Nat) (w : World) (c : Int) : Prop := w.heap[nb]? = some (.cells #[.int .u32 c] 117)
def Cnt (nb : Nat) (w : World) : Prop := ∃ c, CntAt nb w c
def cA (nb : Nat) : Addr := ⟨nb, 0, none⟩

/-- What a worker suffers. -/
structure Env (Wg nb n : Nat) (w w₁ : World) : Prop where
  low : ∀ b, b < n → b ≠ Wg → b ≠ nb → w₁.heap[b]? = w.heap[b]?
  live : Live Wg w → Live Wg w₁
  cnt : Cnt nb w → Cnt nb w₁
/-- What the starter suffers. -/
structure RM (Wg nb : Nat) (w w₁ : World) : Prop where
  tape : w₁.tape = w.tape
  os : w₁.os = w.os
  output : w₁.output = w.output
  size : w₁.heap.size = w.heap.size
  block : ∀ b, b ≠ Wg → b ≠ nb → w₁.heap[b]? = w.heap[b]?
  live : Live Wg w → Live Wg w₁
  cnt : Cnt nb w → Cnt nb w₁
/-- What the starter does to the world: what lies below n stands. -/
structure Kp (n : Nat) (w w' : World) : Prop where
  tape : w'.tape = w.tape
  os : w'.os = w.os
  output : w'.output = w.output
  size : w.heap.size ≤ w'.heap.size
  block : ∀ b, b < n → w'.heap[b]? = w.heap[b]?

section
variable {Wg nb n : Nat} {w w₁ w₂ : World}
theorem Env.trans (h : Env Wg nb n w w₁) (k : Env Wg nb n w₁ w₂) : Env Wg nb n w w₂ := ⟨fun b a c d => (k.low b a c d).trans (h.low b a c d), k.live ∘ h.live, k.cnt ∘ h.cnt⟩
theorem Env.refl (w : World) : Env Wg nb n w w := ⟨fun _ _ _ _ => rfl, id, id⟩
theorem RM.trans (h : RM Wg nb w w₁) (k : RM Wg nb w₁ w₂) : RM Wg nb w w₂ := ⟨k.tape.trans h.tape, k.os.trans h.os, k.output.trans h.output, k.size.trans h.size, fun b a c => (k.block b a c).trans (h.block b a c), k.live ∘ h.live, k.cnt ∘ h.cnt⟩
theorem RM.refl (w : World) : RM Wg nb w w := ⟨rfl, rfl, rfl, rfl, fun _ _ _ => rfl, id, id⟩
theorem RM.at (w : World) (d : Nat) : RM Wg nb w (w.at d) := ⟨rfl, rfl, rfl, rfl, fun _ _ _ => rfl, id, id⟩
theorem RM.env (h : RM Wg nb w w₁) : Env Wg nb n w w₁ := ⟨fun b _ c d => h.block b c d, h.live, h.cnt⟩
theorem Kp.trans (h : Kp n w w₁) (k : Kp n w₁ w₂) : Kp n w w₂ := ⟨k.tape.trans h.tape, k.os.trans h.os, k.output.trans h.output, Nat.le_trans h.size k.size, fun b a => (k.block b a).trans (h.block b a)⟩
theorem Kp.mono {m : Nat} (h : Kp n w w₁) (hm : m ≤ n) : Kp m w w₁ := ⟨h.tape, h.os, h.output, h.size, fun b a => h.block b (by omega)⟩
theorem RM.kp (h : RM Wg nb w w₁) (hW : n ≤ Wg) (hn : n ≤ nb) : Kp n w w₁ := ⟨h.tape, h.os, h.output, Nat.le_of_eq h.size.symm, fun b a => h.block b (by omega) (by omega)⟩
theorem Kp.env {m : Nat} (h : Kp n w w₁) (hm : m ≤ n) (hW : Wg < n) (hn : nb < n) : Env Wg nb m w w₁ :=
  ⟨fun b a _ _ => h.block b (by omega), fun ⟨st, sm, k⟩ => ⟨st, sm, (h.block Wg hW).trans k⟩, fun ⟨c, k⟩ => ⟨c, (h.block nb hn).trans k⟩⟩
/-- A turn of the group's block. -/
theorem RM.of_wg (h : Aside Wg w w₁) (hl : Live Wg w₁) (hne : nb ≠ Wg) : RM Wg nb w w₁ := ⟨h.tape, h.os, h.output, h.size, fun b a _ => h.block b a, fun _ => hl, fun ⟨c, k⟩ => ⟨c, (h.block nb hne).trans k⟩⟩
/-- A turn of the counter's block. -/
theorem RM.of_cnt (h : Aside nb w w₁) (hl : Cnt nb w₁) (hne : Wg ≠ nb) : RM Wg nb w w₁ := ⟨h.tape, h.os, h.output, h.size, fun b _ a => h.block b a, fun ⟨st, sm, k⟩ => ⟨st, sm, (h.block Wg hne).trans k⟩, fun _ => hl⟩
theorem CntAt.set {c : Int} (h : CntAt nb w c) (v : Int) : CntAt nb (w.setCell (cA nb) (.int .u32 v)) v := by
  unfold CntAt at h ⊢
  obtain ⟨hlt, he⟩ := Array.getElem?_eq_some_iff.1 h
  unfold World.setCell cA
  simp [hlt, Array.getElem_modify, he]
theorem CntAt.cell {c : Int} (h : CntAt nb w c) : w.cell? (cA nb) = some (.int .u32 c) := by
  unfold CntAt at h
  simp [World.cell?, cA, h]
end

section
variable (S : Nat → Prop) (Wg nb : Nat) (Low : Nat → Nat)
/-- A worker's idle step, ahead of its release. -/
def DK (i : Nat) (w w' : World) (es : Array Event) : Prop := w' = w ∧ ∀ e ∈ es, OkK S Wg nb Low (Low i) i (.ofEvent e) ∧ e.loc ≠ .mark .disable ∧ e.loc ≠ .mark .enable
/-- The starter's idle step while j workers are started. -/
def DM (j : Nat) (w w' : World) (es : Array Event) : Prop := Kp (Low (j - 1)) w w' ∧ ∀ e ∈ es, OkM S Wg nb Low w'.heap.size j (.ofEvent e) ∧ e.loc ≠ .mark .disable ∧ e.loc ≠ .mark .enable

/-- What is still to be added; then the release. -/
def Adds (i : Nat) : List Int → Goroutine → World → Prop
  | [] => Runs Try.prog false (Env Wg nb (Low i)) (DK S Wg nb Low i) (SR (Env Wg nb (Low i)) Wg)
  | x :: r => Runs Try.prog false (Env Wg nb (Low i)) (DK S Wg nb Low i) fun g w =>
      g.status = .running ∧ ∀ c, CntAt nb w c → ∃ g', stepG Try.prog false g w = .go g' (w.setCell (cA nb) (.int .u32 (IntKind.u32.wrap (c + x)))) #[rd (cA nb), wr (cA nb)] ∧ Adds i r g' (w.setCell (cA nb) (.int .u32 (IntKind.u32.wrap (c + x))))
def AddStop (i : Nat) (x : Int) (r : List Int) (g : Goroutine) (w : World) : Prop :=
  g.status = .running ∧ ∀ c, CntAt nb w c → ∃ g', stepG Try.prog false g w = .go g' (w.setCell (cA nb) (.int .u32 (IntKind.u32.wrap (c + x)))) #[rd (cA nb), wr (cA nb)] ∧ Adds S Wg nb Low i r g' (w.setCell (cA nb) (.int .u32 (IntKind.u32.wrap (c + x))))

/-- Where worker i stands: what it has still to add, its stage, its fuel, its deafness. -/
inductive WS (i : Nat) : List Int → Nat → Nat → Nat → Goroutine → World → Prop
  | add {x : Int} {r : List Int} {m : Nat} {g : Goroutine} {w : World} : Goes Try.prog false (Env Wg nb (Low i)) (DK S Wg nb Low i) (AddStop S Wg nb Low i x r) m g w → WS i (x :: r) 7 m 0 g w
  | r0 {m : Nat} {g : Goroutine} {w : World} : Goes Try.prog false (Env Wg nb (Low i)) (DK S Wg nb Low i) (SR (Env Wg nb (Low i)) Wg) m g w → WS i [] 7 m 0 g w
  | k1 {m : Nat} {g : Goroutine} {w : World} : Goes Try.prog false (Env Wg nb (Low i)) Sil (SK (Env Wg nb (Low i)) Wg) m g w → WS i [] 6 m 0 g w
  | d1 {m : Nat} {g : Goroutine} {w : World} : Goes Try.prog false (Env Wg nb (Low i)) Sil (S1 (Env Wg nb (Low i)) Wg) m g w → WS i [] 5 m 1 g w
  | d2 {m : Nat} {g : Goroutine} {w : World} : Goes Try.prog false (Env Wg nb (Low i)) Sil (S2 (Env Wg nb (Low i)) Wg) m g w → WS i [] 4 m 1 g w
  | d3 {m : Nat} {g : Goroutine} {w : World} : Goes Try.prog false (Env Wg nb (Low i)) Sil (S3 (Env Wg nb (Low i)) Wg) m g w → WS i [] 3 m 1 g w
  | d4 {m : Nat} {g : Goroutine} {w : World} : Goes Try.prog false (Env Wg nb (Low i)) Sil (S4 Wg) m g w → WS i [] 2 m 1 g w
  | quit {q d : Nat} {g : Goroutine} {w : World} : QuitsD Try.prog q d g → WS i [] 1 q d g w

variable (all : Nat → List Int) (Ld : Goroutine → World → Prop)
/-- The go statement. -/
def MGo (j : Nat) (Next : Goroutine → World → Prop) (g : Goroutine) (w : World) : Prop :=
  g.status = .running ∧ ∃ g' child, stepG Try.prog true g w = .spawn g' child w #[] ∧ child.status = .running ∧ Adds S Wg nb Low j (all j) child w ∧ Next g' w ∧ Low j ≤ w.heap.size
/-- The starter's script: r workers are still to be started. -/
def Spawns : Nat → Goroutine → World → Prop
  | 0 => Runs Try.prog true (RM Wg nb) (DM S Wg nb Low 2) (WKd (RM Wg nb) (DM S Wg nb Low 2) Wg Ld)
  | r + 1 => Runs Try.prog true (RM Wg nb) (DM S Wg nb Low (2 - (r + 1))) (MKd (RM Wg nb) (DM S Wg nb Low (2 - (r + 1))) Wg (MGo S Wg nb Low all (2 - (r + 1)) (Spawns r)))

inductive CTag where
  | sp (r s : Nat) | kd | w1 (n : Nat) | w2 (n vs : Nat) | w3 | blk | w4 | ke | acq | ld
def phi : CTag → Nat
  | .sp r s => 40 + 10 * r + s
  | .kd => 30
  | .w1 n => 11 + 2 * n
  | .w2 n _ => 12 + 2 * n
  | .w3 => 5
  | .blk => 5
  | .w4 => 4
  | .ke => 3
  | .acq => 2
  | .ld => 1

/-- Where the starter stands: tag, how many are started, fuel, deafness. -/
inductive CS : CTag → Nat → Nat → Nat → Goroutine → World → Prop
  | skd {r m : Nat} {g : Goroutine} {w : World} : r < 2 → Goes Try.prog true (RM Wg nb) ((DM S Wg nb Low) (2 - (r + 1))) (MKd (RM Wg nb) ((DM S Wg nb Low) (2 - (r + 1))) Wg (MGo S Wg nb Low all (2 - (r + 1)) (Spawns S Wg nb Low all Ld r))) m g w → CS (.sp r 5) (2 - (r + 1)) m 0 g w
  | sa {r m : Nat} {g : Goroutine} {w : World} : r < 2 → Goes Try.prog true (RM Wg nb) ((DM S Wg nb Low) (2 - (r + 1))) (MA (RM Wg nb) ((DM S Wg nb Low) (2 - (r + 1))) Wg (MGo S Wg nb Low all (2 - (r + 1)) (Spawns S Wg nb Low all Ld r))) m g w → CS (.sp r 4) (2 - (r + 1)) m 1 g w
  | ske {r m : Nat} {g : Goroutine} {w : World} : r < 2 → Goes Try.prog true (RM Wg nb) ((DM S Wg nb Low) (2 - (r + 1))) (MKe (RM Wg nb) ((DM S Wg nb Low) (2 - (r + 1))) (MGo S Wg nb Low all (2 - (r + 1)) (Spawns S Wg nb Low all Ld r))) m g w → CS (.sp r 3) (2 - (r + 1)) m 1 g w
  | sgo {r m : Nat} {g : Goroutine} {w : World} : r < 2 → Goes Try.prog true (RM Wg nb) ((DM S Wg nb Low) (2 - (r + 1))) (MGo S Wg nb Low all (2 - (r + 1)) (Spawns S Wg nb Low all Ld r)) m g w → CS (.sp r 2) (2 - (r + 1)) m 0 g w
  | kd {m : Nat} {g : Goroutine} {w : World} : Goes Try.prog true (RM Wg nb) ((DM S Wg nb Low) 2) (WKd (RM Wg nb) ((DM S Wg nb Low) 2) Wg Ld) m g w → CS .kd 2 m 0 g w
  | w1 {n m : Nat} {g : Goroutine} {w : World} : n ≤ 2 → Goes Try.prog true (RM Wg nb) ((DM S Wg nb Low) 2) (W1 (RM Wg nb) ((DM S Wg nb Low) 2) Wg Ld n) m g w → CS (.w1 n) 2 m 1 g w
  | w2 {n vs m : Nat} {g : Goroutine} {w : World} : 1 ≤ vs → vs ≤ n + 1 → n ≤ 1 → Goes Try.prog true (RM Wg nb) ((DM S Wg nb Low) 2) (W2 (RM Wg nb) ((DM S Wg nb Low) 2) Wg Ld (W1 (RM Wg nb) ((DM S Wg nb Low) 2) Wg Ld n) vs) m g w → CS (.w2 n vs) 2 m 1 g w
  | w3 {m : Nat} {g : Goroutine} {w : World} : Goes Try.prog true (RM Wg nb) ((DM S Wg nb Low) 2) (W3 (RM Wg nb) ((DM S Wg nb Low) 2) Wg Ld) m g w → CS .w3 2 (m + 1) 1 g w
  | blk {g : Goroutine} {w : World} : (∀ w₁, RM Wg nb w w₁ → W3 (RM Wg nb) ((DM S Wg nb Low) 2) Wg Ld g w₁) → CS .blk 2 0 1 { g with status := .blocked } w
  | w4 {m : Nat} {g : Goroutine} {w : World} : Goes Try.prog true (RM Wg nb) ((DM S Wg nb Low) 2) (W4 (RM Wg nb) ((DM S Wg nb Low) 2) Wg Ld) m g w → CS .w4 2 m 1 g w
  | ke {m : Nat} {g : Goroutine} {w : World} : Goes Try.prog true (RM Wg nb) ((DM S Wg nb Low) 2) (WKe (RM Wg nb) ((DM S Wg nb Low) 2) Wg Ld) m g w → CS .ke 2 m 1 g w
  | acq {m : Nat} {g : Goroutine} {w : World} : Goes Try.prog true (RM Wg nb) ((DM S Wg nb Low) 2) (WAcq (RM Wg nb) ((DM S Wg nb Low) 2) Wg Ld) m g w → CS .acq 2 m 0 g w
  | ld {m : Nat} {g : Goroutine} {w : World} : Goes Try.prog true (RM Wg nb) ((DM S Wg nb Low) 2) Ld m g w → CS .ld 2 m 0 g w
end

section
variable {S : Nat → Prop} {Wg nb i : Nat} {Low : Nat → Nat} {rest : List Int} {s m d : Nat} {g : Goroutine} {w w₁ : World}
theorem WS.rely (h : WS S Wg nb Low i rest s m d g w) (hr : Env Wg nb (Low i) w w₁) : WS S Wg nb Low i rest s m d g w₁ := by
  have tr : ∀ a b c, Env Wg nb (Low i) a b → Env Wg nb (Low i) b c → Env Wg nb (Low i) a c := fun _ _ _ h1 h2 => h1.trans h2
  cases h with
  | add h => exact .add (Goes.rely tr h hr)
  | r0 h => exact .r0 (Goes.rely tr h hr)
  | k1 h => exact .k1 (Goes.rely tr h hr)
  | d1 h => exact .d1 (Goes.rely tr h hr)
  | d2 h => exact .d2 (Goes.rely tr h hr)
  | d3 h => exact .d3 (Goes.rely tr h hr)
  | d4 h => exact .d4 (Goes.rely tr h hr)
  | quit h => exact .quit h
theorem WS.running (h : WS S Wg nb Low i rest s m d g w) (hs : s ≠ 1) : g.status = .running := by
  cases h with
  | add h => exact Goes.running (fun _ _ x => x.1) w (Env.refl w) h
  | r0 h => exact Goes.running (fun _ _ x => x.1) w (Env.refl w) h
  | k1 h => exact Goes.running (fun _ _ x => x.1) w (Env.refl w) h
  | d1 h => exact Goes.running (fun _ _ x => x.1) w (Env.refl w) h
  | d2 h => exact Goes.running (fun _ _ x => x.1) w (Env.refl w) h
  | d3 h => exact Goes.running (fun _ _ x => x.1) w (Env.refl w) h
  | d4 h => exact Goes.running (fun _ _ x => x.1) w (Env.refl w) h
  | quit _ => exact absurd rfl hs
theorem WS.status (h : WS S Wg nb Low i rest s m d g w) : g.status = .running ∨ g.status = .finished := by
  by_cases hs : s = 1
  · subst hs
    cases h with
    | quit h => exact h.status
  · exact .inl (h.running hs)
/-- Nobody wakes a worker: it is never blocked. -/
theorem WS.woken (h : WS S Wg nb Low i rest s m d g w) (a a' : Goroutine) (w' : World) : woken Try.prog a a' w' g = g := by
  unfold Go.Conc.woken
  split
  · exact again_running _ h.status
  · rfl
end

section
variable {S : Nat → Prop} {Wg nb : Nat} {Low : Nat → Nat} {all : Nat → List Int} {Ld : Goroutine → World → Prop} {tag : CTag} {j f d : Nat} {a : Goroutine} {w w' : World}
theorem CS.rely (h : CS S Wg nb Low all Ld tag j f d a w) (hr : RM Wg nb w w') : CS S Wg nb Low all Ld tag j f d a w' := by
  have tr : ∀ x y z, RM Wg nb x y → RM Wg nb y z → RM Wg nb x z := fun _ _ _ h1 h2 => h1.trans h2
  cases h with
  | skd hn h => exact .skd hn (Goes.rely tr h hr)
  | sa hn h => exact .sa hn (Goes.rely tr h hr)
  | ske hn h => exact .ske hn (Goes.rely tr h hr)
  | sgo hn h => exact .sgo hn (Goes.rely tr h hr)
  | kd h => exact .kd (Goes.rely tr h hr)
  | w1 hn h => exact .w1 hn (Goes.rely tr h hr)
  | w2 h1 h2 h3 h => exact .w2 h1 h2 h3 (Goes.rely tr h hr)
  | w3 h => exact .w3 (Goes.rely tr h hr)
  | blk h => exact .blk fun w₂ h₂ => h w₂ (hr.trans h₂)
  | w4 h => exact .w4 (Goes.rely tr h hr)
  | ke h => exact .ke (Goes.rely tr h hr)
  | acq h => exact .acq (Goes.rely tr h hr)
  | ld h => exact .ld (Goes.rely tr h hr)
theorem W1.running {R D n} (h : W1 R D Wg Ld n a w) : a.status = .running := by cases n <;> exact h.1
theorem CS.status (hL : ∀ g w, Ld g w → g.status = .running) (h : CS S Wg nb Low all Ld tag j f d a w) : (a.status = .running ∧ tag ≠ .blk) ∨ (a.status = .blocked ∧ tag = .blk) := by
  cases h with
  | skd _ h => exact .inl ⟨Goes.running (fun _ _ x => x.1) w (RM.refl w) h, by simp⟩
  | sa _ h => exact .inl ⟨Goes.running (fun _ _ x => x.1) w (RM.refl w) h, by simp⟩
  | ske _ h => exact .inl ⟨Goes.running (fun _ _ x => x.1) w (RM.refl w) h, by simp⟩
  | sgo _ h => exact .inl ⟨Goes.running (fun _ _ x => x.1) w (RM.refl w) h, by simp⟩
  | kd h => exact .inl ⟨Goes.running (fun _ _ x => x.1) w (RM.refl w) h, by simp⟩
  | w1 _ h => exact .inl ⟨Goes.running (fun _ _ x => x.running) w (RM.refl w) h, by simp⟩
  | w2 _ _ _ h => exact .inl ⟨Goes.running (fun _ _ x => x.1) w (RM.refl w) h, by simp⟩
  | w3 h => exact .inl ⟨Goes.running (fun _ _ x => x.1) w (RM.refl w) h, by simp⟩
  | blk h => exact .inr ⟨rfl, rfl⟩
  | w4 h => exact .inl ⟨Goes.running (fun _ _ x => x.1) w (RM.refl w) h, by simp⟩
  | ke h => exact .inl ⟨Goes.running (fun _ _ x => x.1) w (RM.refl w) h, by simp⟩
  | acq h => exact .inl ⟨Goes.running (fun _ _ x => x.1) w (RM.refl w) h, by simp⟩
  | ld h => exact .inl ⟨Goes.running hL w (RM.refl w) h, by simp⟩
/-- Under another's step: as it stood; or, blocked, it is let try again. -/
theorem CS.wokenBy (hL : ∀ g w, Ld g w → g.status = .running) (h : CS S Wg nb Low all Ld tag j f d a w) (hr : RM Wg nb w w') (g g' : Goroutine) :
    ∃ tag' f', CS S Wg nb Low all Ld tag' j f' d (woken Try.prog g g' w' a) w' ∧ f' ≤ f + 1 ∧ (tag' = tag ∨ (tag = .blk ∧ tag' = .w3)) ∧ (mayWake Try.prog g = true → g'.status = .running → tag' ≠ .blk) := by
  have h' := h.rely hr
  unfold Go.Conc.woken
  split
  · rcases h'.status hL with ⟨hs, hne⟩ | ⟨_, rfl⟩
    · exact ⟨tag, f, by rw [again_running _ (.inl hs)]; exact h', by omega, .inl rfl, fun _ _ => hne⟩
    · cases h' with
      | blk hb =>
        rename_i g0
        have h3 := hb w' (.refl w')
        exact ⟨.w3, 0 + 1, by rw [Go.ConcR.again_blocked h3.1 h3.2.1]; exact .w3 (Goes.stop hb), by omega, .inr ⟨rfl, rfl⟩, fun _ _ => by simp⟩
  · rename_i hc
    exact ⟨tag, f, h', by omega, .inl rfl, fun h1 h2 => absurd (by simp [h1, h2]) hc⟩
end
end Go.Proofs.Ytnikfjfcbpeieaa.Lk
end
section
namespace Go.Proofs.Ytnikfjfcbpeieaa.Lk
open Go Go.Conc
open Go.ConcN (sumTo upd sumTo_upd upd_ne upd_same sumTo_congr RelBy get_map_set get_map_set_same)
open Go.ConcR (KK wgBlock WgAt stA smA rd wr mk)
set_option linter.unusedVariables false
set_option linter.unusedSimpArgs false

structure WD where
  rest : List Int
  stage : Nat
  fuel : Nat
  deaf : Nat
def cnt (d : WD) : Nat := if 5 ≤ d.stage then 1 else 0
def Vc (j : Nat) (D : Nat → WD) : Nat := sumTo j fun i => cnt (D i)
def len (d : WD) : Nat := d.stage + d.rest.length
def rsum (D : Nat → WD) : Int := (D 0).rest.sum + (D 1).rest.sum
def pend : CTag → Nat
  | .sp _ s => if s ≤ 3 then 1 else 0
  | _ => 0
def isOpen : CTag → Prop
  | .sp _ _ | .kd | .w1 _ | .w2 _ _ => True
  | _ => False
def isW3 : CTag → Prop
  | .w3 | .blk => True
  | _ => False
def isFin : CTag → Prop
  | .w4 | .ke | .acq | .ld => True
  | _ => False
def OpenSt (j : Nat) (D : Nat → WD) : Prop := ∀ i, i < j → (D i).stage = 7 ∨ (D i).stage = 6 ∨ (D i).stage = 5 ∨ (D i).stage = 1
def AllQuit (j : Nat) (D : Nat → WD) : Prop := ∀ i, i < j → (D i).stage = 1

/-- How the group's two cells hang on where everybody stands. -/
inductive Mode (j : Nat) (D : Nat → WD) : CTag → Int → Int → Prop
  | opn {tag : CTag} : isOpen tag → OpenSt j D → (∀ n, tag = .w1 n → Vc j D ≤ n) → (∀ n vs, tag = .w2 n vs → Vc j D ≤ vs) → Mode j D tag (((Vc j D + pend tag : Nat) : Int) * KK) 0
  | reg {tag : CTag} : isW3 tag → OpenSt j D → 1 ≤ Vc j D → Mode j D tag (((Vc j D : Nat) : Int) * KK + 1) 0
  | last {tag : CTag} (L : Nat) : isW3 tag → L < j → ((D L).stage = 4 ∨ (D L).stage = 3 ∨ (D L).stage = 2) → (∀ i, i < j → i ≠ L → (D i).stage = 1) → Mode j D tag (if (D L).stage = 2 then 0 else 1) 0
  | sema : AllQuit j D → Mode j D .w3 0 1
  | fin {tag : CTag} : isFin tag → AllQuit j D → Mode j D tag 0 0

theorem Mode.retag {j : Nat} {D : Nat → WD} {tag tag' : CTag} {st sm : Int} (h : Mode j D tag st sm) (e : tag' = tag ∨ (tag = .blk ∧ tag' = .w3)) : Mode j D tag' st sm := by
  rcases e with rfl | ⟨rfl, rfl⟩
  · exact h
  · cases h with
    | opn h1 _ _ _ => exact h1.elim
    | reg _ h2 h3 => exact .reg trivial h2 h3
    | last L _ h2 h3 h4 => exact .last L trivial h2 h3 h4
    | fin h1 _ => exact h1.elim
theorem phi_retag {tag tag' : CTag} (e : tag' = tag ∨ (tag = .blk ∧ tag' = .w3)) : phi tag' = phi tag := by
  rcases e with rfl | ⟨rfl, rfl⟩ <;> rfl

section
variable (S : Nat → Prop) (Wg nb K : Nat) (Low : Nat → Nat) (all : Nat → List Int) (Ld : Goroutine → World → Prop)
structure Crew (j : Nat) (gs : Array Goroutine) (w : World) (t : Trace) (D : Nat → WD) (d0 : Nat) (q : Nat → Nat) : Prop where
  size : gs.size = K + j
  old : ∀ p g, 0 < p → p < K → gs[p]? = some g → QuitsD Try.prog (q p) (Deaf t p) g
  wk : ∀ i, i < j → ∃ g, gs[K + i]? = some g ∧ WS S Wg nb Low i (D i).rest (D i).stage (D i).fuel (D i).deaf g w
  mid : Mid S Wg nb K Low w.heap.size j t
  deaf0 : Deaf t 0 = d0
  deafW : ∀ i, i < j → Deaf t (K + i) = (D i).deaf
  rel : ∀ i, i < j → (D i).stage ≤ 6 → ∃ r, RelBy (stA Wg) t (K + i) r
  above : ∀ p, K + j ≤ p → Deaf t p = 0
  fresh : ∀ i, j ≤ i → (D i).rest = all i ∧ (D i).stage = 7
  room : ∀ i, i < j → Low i ≤ w.heap.size
/-- Where the blocks lie. -/
structure Geo (B0 : Nat) : Prop where
  mono : ∀ a b, a ≤ b → Low a ≤ Low b
  hW : Wg < Low 0
  hn : nb < Low 0
  ne : Wg ≠ nb
  bW : B0 ≤ Wg
  bn : B0 ≤ nb
  hK : 0 < K
  bS : ∀ b, S b → b < B0
def CntOk (T : Int) (D : Nat → WD) (w : World) : Prop := ∃ c, CntAt nb w c ∧ 0 ≤ c ∧ c < 4294967296 ∧ (c + rsum D) % 4294967296 = T
def Inv (T : Int) (B0 : Nat) (W : World) (μ : Nat × Nat) (m : Machine) (t : Trace) : Prop :=
  ∃ (gs : Array Goroutine) (w : World) (sl : Option (Nat × Nat)) (j : Nat) (D : Nat → WD) (tag : CTag) (f0 d0 : Nat) (a : Goroutine) (st sm : Int) (q : Nat → Nat),
    m = crowd gs w sl ∧ gs[0]? = some a ∧ CS S Wg nb Low all Ld tag j f0 d0 a w ∧ Crew S Wg nb K Low all j gs w t D d0 q ∧ WgAt 108 Wg w st sm ∧ Mode j D tag st sm ∧ CntOk nb T D w ∧
    (tag = .ld → Acq Wg K j t) ∧ Kp B0 W w ∧ μ = (phi tag + sumTo 2 (fun i => len (D i)), f0 + 2 * (sumTo j (fun i => (D i).fuel) + sumTo K q))
end

section
variable {S : Nat → Prop} {Wg nb K : Nat} {Low : Nat → Nat} {all : Nat → List Int} {Ld : Goroutine → World → Prop}
  {gs : Array Goroutine} {w w' : World} {sl : Option (Nat × Nat)} {j : Nat} {D : Nat → WD} {tag : CTag} {f0 d0 : Nat} {a : Goroutine} {t : Trace} {q : Nat → Nat} {T : Int} {B0 : Nat} {W : World}

theorem CS.two (h : CS S Wg nb Low all Ld tag j f0 d0 a w) : j ≤ 2 := by cases h <;> omega
theorem CS.bound (h : CS S Wg nb Low all Ld tag j f0 d0 a w) : j + pend tag ≤ 2 := by
  cases h <;> simp only [pend] <;> (try simp) <;> omega

theorem Crew.at (h : Crew S Wg nb K Low all j gs w t D d0 q) (d : Nat) : Crew S Wg nb K Low all j gs (w.at d) t D d0 q :=
  ⟨h.size, h.old, fun i hi => let ⟨g, hg, hs⟩ := h.wk i hi; ⟨g, hg, hs.rely (RM.env (RM.at w d))⟩, h.mid, h.deaf0, h.deafW, h.rel, h.above, h.fresh, h.room⟩

theorem ofEvents_g {p : Nat} {fn : FuncId} {pos : String} {es : Array Event} : ∀ op ∈ MemOp.ofEvents p fn pos es, op.g = p := fun op hop => by obtain ⟨e, _, rfl⟩ := Go.Conc.mem_ofEvents hop; rfl

/-- A STEP OF WORKER i. -/
theorem workerStep (G : Geo S Wg nb K Low B0) (hL : ∀ g w, Ld g w → g.status = .running)
    (ha : gs[0]? = some a) (hcs : CS S Wg nb Low all Ld tag j f0 d0 a w) (hc : Crew S Wg nb K Low all j gs w t D d0 q) (hk : Kp B0 W w)
    {i : Nat} (hi : i < j) {g g' : Goroutine} {es : Array Event} {rest' : List Int} {s' m' dd' : Nat} {st' sm' : Int} (hg : gs[K + i]? = some g) (hgo : stepG Try.prog false g w = .go g' w' es)
    (hM : RM Wg nb w w') (hs' : WS S Wg nb Low i rest' s' m' dd' g' w') (hok : ∀ e ∈ es, OkK S Wg nb Low (Low i) i (.ofEvent e)) (hdeaf : deafBehind (D i).deaf es = dd')
    (hrel : s' ≤ 6 → ∃ r, RelBy (stA Wg) (t ++ MemOp.ofEvents (K + i) g.frame.fn g.frame.place es) (K + i) r) (hwg : WgAt 108 Wg w' st' sm')
    (hmode : ∀ tag', (tag' = tag ∨ (tag = .blk ∧ tag' = .w3)) → (mayWake Try.prog g = true → g'.status = .running → tag' ≠ .blk) → Mode j (upd D i ⟨rest', s', m', dd'⟩) tag' st' sm')
    (hcnt : CntOk nb T (upd D i ⟨rest', s', m', dd'⟩) w')
    (hacq : tag = .ld → Acq Wg K j (t ++ MemOp.ofEvents (K + i) g.frame.fn g.frame.place es))
    (hlt : len ⟨rest', s', m', dd'⟩ < len (D i) ∨ (len ⟨rest', s', m', dd'⟩ = len (D i) ∧ m' + 1 = (D i).fuel)) :
    ∃ m₁ ops μ', runT Try.prog (crowd gs w sl) (K + i) = (.next m₁, ops) ∧ Lt2 μ' (phi tag + sumTo 2 (fun i => len (D i)), f0 + 2 * (sumTo j (fun i => (D i).fuel) + sumTo K q)) ∧ Inv S Wg nb K Low all Ld T B0 W μ' m₁ (t ++ ops) := by
  obtain ⟨tag', f', hcs', hf', htag, hwk⟩ := hcs.wokenBy hL hM g g'
  have h2 := hcs.two
  have hK := G.hK
  have hi0 : (K + i == 0) = false := by simp; omega
  have hrun := runT_crowd_go (P := Try.prog) (sl := sl) (i := K + i) hg (by rw [hi0]; exact hgo)
  have e2 := sumTo_upd D (⟨rest', s', m', dd'⟩ : WD) len (show i < 2 by omega)
  have e3 := sumTo_upd D (⟨rest', s', m', dd'⟩ : WD) WD.fuel hi
  have hsz := hc.size
  have hg0 : ∀ op ∈ MemOp.ofEvents (K + i) g.frame.fn g.frame.place es, op.g = K + i := ofEvents_g
  have hcrew : Crew S Wg nb K Low all j ((gs.map (woken Try.prog g g' w')).setIfInBounds (K + i) g') w' (t ++ MemOp.ofEvents (K + i) g.frame.fn g.frame.place es) (upd D i ⟨rest', s', m', dd'⟩) d0 q := by
    refine ⟨by simp [hsz], fun p x h0 hp hx => ?_, fun i' hi' => ?_, ?_, by rw [Deaf_other t (by omega) _ hg0, hc.deaf0], fun i' hi' => ?_, fun i' hi' hst => ?_, fun p hp => ?_, fun i' hi' => ?_, fun i' hi' => by rw [hM.size]; exact hc.room i' hi'⟩
    · rw [get_map_set _ _ _ _ (by omega)] at hx
      obtain ⟨y, hy, rfl⟩ := Option.map_eq_some_iff.1 hx
      have hq := hc.old p y h0 hp hy
      rw [woken_quitsD hq, Deaf_other t (by omega) _ hg0]
      exact hq
    · by_cases e : i' = i
      · subst e
        exact ⟨g', get_map_set_same _ _ _ (by omega), by rw [upd_same]; exact hs'⟩
      · obtain ⟨x, hx, hsx⟩ := hc.wk i' hi'
        exact ⟨x, by rw [get_map_set _ _ _ _ (by omega), hx, Option.map_some, hsx.woken], by rw [upd_ne D _ e]; exact hsx.rely hM.env⟩
    · rw [hM.size]
      refine hc.mid.appW hi hg0 fun op hop => ?_
      obtain ⟨e, he, rfl⟩ := Go.Conc.mem_ofEvents hop
      obtain ⟨h1, h2, h3⟩ := hok e he
      exact ⟨h1, h2, MemAct.low_mono (hc.room i hi) h3⟩
    · by_cases e : i' = i
      · subst e; rw [Deaf_own, hc.deafW i' hi', upd_same]; exact hdeaf
      · rw [Deaf_other t (by omega) _ hg0, hc.deafW i' hi', upd_ne D _ e]
    · by_cases e : i' = i
      · subst e; rw [upd_same] at hst; exact hrel hst
      · rw [upd_ne D _ e] at hst
        obtain ⟨r, hr⟩ := hc.rel i' hi' hst
        exact ⟨r, hr.appOther hg0 (by omega)⟩
    · rw [Deaf_other t (by omega) _ hg0]; exact hc.above p hp
    · rw [upd_ne D _ (by omega)]; exact hc.fresh i' hi'
  refine ⟨_, _, (phi tag' + sumTo 2 (fun p => len (upd D i ⟨rest', s', m', dd'⟩ p)), f' + 2 * (sumTo j (fun p => (upd D i ⟨rest', s', m', dd'⟩ p).fuel) + sumTo K q)), hrun, ?_,
    _, w', sl, j, upd D i ⟨rest', s', m', dd'⟩, tag', f', d0, woken Try.prog g g' w' a, st', sm', q, rfl, by rw [get_map_set _ _ _ _ (by omega), ha]; rfl, hcs', hcrew, hwg, hmode tag' htag hwk, hcnt, ?_, hk.trans (hM.kp G.bW G.bn), rfl⟩
  · rw [phi_retag htag]
    rcases hlt with h | ⟨h1, h3⟩
    · exact Prod.Lex.left _ _ (by omega)
    · have : (sumTo 2 fun p => len (upd D i ⟨rest', s', m', dd'⟩ p)) = sumTo 2 fun p => len (D p) := by omega
      rw [this]
      exact Prod.Lex.right _ (by simp only at e3; omega)
  · intro e
    rcases htag with rfl | ⟨_, rfl⟩
    · exact hacq e
    · cases e

/-- A STEP OF A LEAVER. -/
theorem leaverStep (G : Geo S Wg nb K Low B0) (hL : ∀ g w, Ld g w → g.status = .running)
    (ha : gs[0]? = some a) (hcs : CS S Wg nb Low all Ld tag j f0 d0 a w) (hc : Crew S Wg nb K Low all j gs w t D d0 q) (hk : Kp B0 W w) {st sm : Int} (hwg : WgAt 108 Wg w st sm) (hmode : Mode j D tag st sm) (hcnt : CntOk nb T D w) (hacq : tag = .ld → Acq Wg K j t)
    {p : Nat} (hp0 : 0 < p) (hp : p < K) {g : Goroutine} (hg : gs[p]? = some g) (hrun : g.status = .running) :
    ∃ m₁ ops μ', runT Try.prog (crowd gs w sl) p = (.next m₁, ops) ∧ Lt2 μ' (phi tag + sumTo 2 (fun i => len (D i)), f0 + 2 * (sumTo j (fun i => (D i).fuel) + sumTo K q)) ∧ Inv S Wg nb K Low all Ld T B0 W μ' m₁ (t ++ ops) := by
  have hq := hc.old p g hp0 hp hg
  cases hqp : q p with
  | zero => rw [hqp] at hq; rw [hq.1] at hrun; cases hrun
  | succ k =>
    rw [hqp] at hq
    rcases hq with ⟨hf, _⟩ | ⟨_, g', es, hm, hst, hq'⟩
    · rw [hf] at hrun; cases hrun
    obtain ⟨tag', f', hcs', hf', htag, hwk⟩ := hcs.wokenBy hL (RM.refl w) g g'
    have hi0 : (p == 0) = false := by simp; omega
    have hr := runT_crowd_go (P := Try.prog) (sl := sl) (i := p) hg (by rw [hi0]; exact hst w)
    have hsz := hc.size
    have hg0 : ∀ op ∈ MemOp.ofEvents p g.frame.fn g.frame.place es, op.g = p := ofEvents_g
    have hnt : ∀ op ∈ MemOp.ofEvents p g.frame.fn g.frame.place es, op.act.touch? = none := fun op hop => by obtain ⟨e, he, rfl⟩ := Go.Conc.mem_ofEvents hop; exact touch_mute (hm e he)
    have e3 : sumTo K (upd q p k) + q p = sumTo K q + k := sumTo_upd q k id hp
    have hcrew : Crew S Wg nb K Low all j ((gs.map (woken Try.prog g g' w)).setIfInBounds p g') w (t ++ MemOp.ofEvents p g.frame.fn g.frame.place es) D d0 (upd q p k) := by
      refine ⟨by simp [hsz], fun p' x h0 hp' hx => ?_, fun i' hi' => ?_, ?_, by rw [Deaf_other t (by omega) _ hg0, hc.deaf0], fun i' hi' => by rw [Deaf_other t (by omega) _ hg0, hc.deafW i' hi'], fun i' hi' hst => ?_, fun p' hp' => ?_, hc.fresh, hc.room⟩
      · by_cases e : p' = p
        · subst e
          rw [get_map_set_same _ _ _ (by omega)] at hx
          obtain rfl := Option.some.inj hx
          rw [upd_same, Deaf_own]
          exact hq'
        · rw [get_map_set _ _ _ _ (Ne.symm e)] at hx
          obtain ⟨y, hy, rfl⟩ := Option.map_eq_some_iff.1 hx
          have hqy := hc.old p' y h0 hp' hy
          rw [woken_quitsD hqy, Deaf_other t (Ne.symm e) _ hg0, upd_ne q _ e]
          exact hqy
      · obtain ⟨x, hx, hsx⟩ := hc.wk i' hi'
        exact ⟨x, by rw [get_map_set _ _ _ _ (by omega), hx, Option.map_some, hsx.woken], hsx⟩
      · refine hc.mid.appMute hg0 hnt (fun op hop he => ?_) fun op hop => ?_
        · obtain ⟨e, hee, rfl⟩ := Go.Conc.mem_ofEvents hop
          have := hm e hee
          obtain ⟨loc, wr, sy⟩ := e
          cases loc <;> simp_all [Event.mute, MemAct.ofEvent]
        · obtain ⟨e, hee, rfl⟩ := Go.Conc.mem_ofEvents hop
          exact low_mute (hm e hee) _
      · obtain ⟨r, hr⟩ := hc.rel i' hi' hst
        exact ⟨r, hr.appOther hg0 (by omega)⟩
      · rw [Deaf_other t (by omega) _ hg0]; exact hc.above p' hp'
    refine ⟨_, _, (phi tag' + sumTo 2 (fun p => len (D p)), f' + 2 * (sumTo j (fun p => (D p).fuel) + sumTo K (upd q p k))), hr, ?_,
      _, w, sl, j, D, tag', f', d0, woken Try.prog g g' w a, st, sm, upd q p k, rfl, by rw [get_map_set _ _ _ _ (by omega), ha]; rfl, hcs', hcrew, hwg, hmode.retag htag, hcnt, ?_, hk, rfl⟩
    · rw [phi_retag htag]
      refine Prod.Lex.right _ ?_
      rw [hqp] at e3
      omega
    · intro e
      rcases htag with rfl | ⟨_, rfl⟩
      · exact (hacq e).app fun i r hi hr => hr.appOther hg0 (by omega)
      · cases e

/-- A STEP OF THE STARTER's THAT IS NO go STATEMENT. -/
theorem callerStep (G : Geo S Wg nb K Low B0)
    (ha : gs[0]? = some a) (h2 : j ≤ 2) (hc : Crew S Wg nb K Low all j gs w t D d0 q) (hk : Kp B0 W w)
    {a' : Goroutine} {es : Array Event} {tag' : CTag} {f' : Nat} {st' sm' : Int} (hgo : stepG Try.prog true a w = .go a' w' es)
    (hE : ∀ i, i < j → Env Wg nb (Low i) w w') (hK0 : Kp B0 w w') (hok : ∀ e ∈ es, OkM S Wg nb Low w'.heap.size j (.ofEvent e))
    (hcs' : CS S Wg nb Low all Ld tag' j f' (deafBehind d0 es) a' w') (hwg : WgAt 108 Wg w' st' sm') (hmode : Mode j D tag' st' sm') (hcnt : CntOk nb T D w')
    (hacq : tag' = .ld → Acq Wg K j (t ++ MemOp.ofEvents 0 a.frame.fn a.frame.place es))
    (hlt : phi tag' < phi tag ∨ (phi tag' = phi tag ∧ f' < f0)) :
    ∃ m₁ ops μ', runT Try.prog (crowd gs w sl) 0 = (.next m₁, ops) ∧ Lt2 μ' (phi tag + sumTo 2 (fun i => len (D i)), f0 + 2 * (sumTo j (fun i => (D i).fuel) + sumTo K q)) ∧ Inv S Wg nb K Low all Ld T B0 W μ' m₁ (t ++ ops) := by
  have hrun := runT_crowd_go (P := Try.prog) (sl := sl) (i := 0) ha (by simpa using hgo)
  have hsz := hc.size
  have hK := G.hK
  have hg0 : ∀ op ∈ MemOp.ofEvents 0 a.frame.fn a.frame.place es, op.g = 0 := ofEvents_g
  have hcrew : Crew S Wg nb K Low all j ((gs.map (woken Try.prog a a' w')).setIfInBounds 0 a') w' (t ++ MemOp.ofEvents 0 a.frame.fn a.frame.place es) D (deafBehind d0 es) q := by
    refine ⟨by simp [hsz], fun p x h0 hp hx => ?_, fun i hi => ?_, ?_, by rw [Deaf_own, hc.deaf0], fun i hi => by rw [Deaf_other t (by omega) _ hg0, hc.deafW i hi], fun i hi hst => ?_, fun p hp => ?_, hc.fresh, fun i hi => Nat.le_trans (hc.room i hi) hK0.size⟩
    · rw [get_map_set _ _ _ _ (by omega)] at hx
      obtain ⟨y, hy, rfl⟩ := Option.map_eq_some_iff.1 hx
      have hq := hc.old p y h0 hp hy
      rw [woken_quitsD hq, Deaf_other t (by omega) _ hg0]
      exact hq
    · obtain ⟨x, hx, hsx⟩ := hc.wk i hi
      exact ⟨x, by rw [get_map_set _ _ _ _ (by omega), hx, Option.map_some, hsx.woken], hsx.rely (hE i hi)⟩
    · refine (hc.mid.mono hK0.size).app0 hg0 fun op hop => ?_
      obtain ⟨e, he, rfl⟩ := Go.Conc.mem_ofEvents hop
      exact hok e he
    · obtain ⟨r, hr⟩ := hc.rel i hi hst
      exact ⟨r, hr.appOther hg0 (by omega)⟩
    · rw [Deaf_other t (by omega) _ hg0]; exact hc.above p hp
  refine ⟨_, _, (phi tag' + sumTo 2 (fun i => len (D i)), f' + 2 * (sumTo j (fun i => (D i).fuel) + sumTo K q)), hrun, ?_,
    _, w', sl, j, D, tag', f', deafBehind d0 es, a', st', sm', q, rfl, get_map_set_same _ _ _ (by omega), hcs', hcrew, hwg, hmode, hcnt, hacq, hk.trans hK0, rfl⟩
  rcases hlt with h | ⟨h1, h3⟩
  · exact Prod.Lex.left _ _ (by omega)
  · rw [h1]; exact Prod.Lex.right _ (by omega)
end
end Go.Proofs.Ytnikfjfcbpeieaa.Lk
end
section
namespace Go.Proofs.Ytnikfjfcbpeieaa.Lk
open Go Go.Conc
open Go.ConcN (sumTo upd sumTo_upd upd_ne upd_same sumTo_congr RelBy le_sumTo)
open Go.ConcR (KK wgBlock WgAt stA smA rd wr mk)
set_option linter.unusedVariables false
set_option linter.unusedSimpArgs false

theorem goes_split {P : Program} {main : Bool} {R : World → World → Prop} {D : World → World → Array Event → Prop} {Stop : Goroutine → World → Prop} {m : Nat} {g : Goroutine} {w : World} (hr : R w w) (h : Goes P main R D Stop m g w) :
    Stop g w ∨ ∃ m' g' w' es, m = m' + 1 ∧ stepG P main g w = .go g' w' es ∧ D w w' es ∧ Goes P main R D Stop m' g' w' := by
  cases m with
  | zero => exact .inl (h w hr)
  | succ m =>
    rcases h with h | ⟨_, h⟩
    · exact .inl (h w hr)
    · have := h w hr
      revert this
      cases hs : stepG P main g w <;> simp only [GStep.goes, false_implies]
      exact fun ⟨d, x⟩ => .inr ⟨m, _, _, _, rfl, rfl, d, x⟩

theorem vc_upd {j i : Nat} (D : Nat → WD) (x : WD) (hi : i < j) : Vc j (upd D i x) + cnt (D i) = Vc j D + cnt x := sumTo_upd D x cnt hi
theorem vc_same {j : Nat} {D D' : Nat → WD} (h : ∀ i, (D' i).stage = (D i).stage) : Vc j D' = Vc j D := sumTo_congr fun i _ => by simp only [cnt, h]
theorem Mode.same {j : Nat} {D D' : Nat → WD} {tag : CTag} {st sm : Int} (h : Mode j D tag st sm) (e : ∀ i, (D' i).stage = (D i).stage) : Mode j D' tag st sm := by
  have ev := vc_same (j := j) e
  have eo : OpenSt j D → OpenSt j D' := fun h i hi => by rw [e]; exact h i hi
  have ea : AllQuit j D → AllQuit j D' := fun h i hi => by rw [e]; exact h i hi
  cases h with
  | opn h1 h2 h3 h4 => rw [← ev]; exact .opn h1 (eo h2) (fun n hn => by rw [ev]; exact h3 n hn) (fun n vs hn => by rw [ev]; exact h4 n vs hn)
  | reg h1 h2 h3 => rw [← ev]; exact .reg h1 (eo h2) (by rw [ev]; exact h3)
  | last L h1 h2 h3 h4 => rw [← e L]; exact .last L h1 h2 (by rw [e]; exact h3) (fun i hi hne => by rw [e]; exact h4 i hi hne)
  | sema h => exact .sema (ea h)
  | fin h1 h2 => exact .fin h1 (ea h2)
/-- A worker goes on among the counted. -/
theorem Mode.counted {j i : Nat} {D : Nat → WD} {tag : CTag} {st sm : Int} {x : WD} (hi : i < j) (h : Mode j D tag st sm) (h1 : 5 ≤ (D i).stage) (h2 : x.stage = 7 ∨ x.stage = 6 ∨ x.stage = 5) : Mode j (upd D i x) tag st sm := by
  have ev := vc_upd D x hi
  have hx : cnt x = 1 := by unfold cnt; rw [if_pos (by omega)]
  have hd : cnt (D i) = 1 := by unfold cnt; rw [if_pos h1]
  have ev' : Vc j (upd D i x) = Vc j D := by omega
  have eo : OpenSt j D → OpenSt j (upd D i x) := fun h p hp => by
    by_cases e : p = i
    · subst e; rw [upd_same]; omega
    · rw [upd_ne D _ e]; exact h p hp
  cases h with
  | opn h3 h4 h5 h6 => rw [← ev']; exact .opn h3 (eo h4) (fun n hn => by rw [ev']; exact h5 n hn) (fun n vs hn => by rw [ev']; exact h6 n vs hn)
  | reg h3 h4 h5 => rw [← ev']; exact .reg h3 (eo h4) (by rw [ev']; exact h5)
  | last L _ h4 h5 h6 =>
    exfalso
    by_cases e : i = L
    · subst e; omega
    · have := h6 i hi e; omega
  | sema h => exact absurd (h i hi) (by omega)
  | fin _ h => exact absurd (h i hi) (by omega)

theorem Mode.ldq {j : Nat} {D : Nat → WD} {tag : CTag} {st sm : Int} (h : Mode j D tag st sm) (e : tag = .ld) : AllQuit j D := by
  subst e
  cases h with
  | opn h _ _ _ => exact h.elim
  | reg h _ _ => exact h.elim
  | last _ h _ _ _ => exact h.elim
  | fin _ h => exact h

theorem rsum_upd {i : Nat} (D : Nat → WD) (x : WD) (hi : i < 2) : rsum (upd D i x) = rsum D - (D i).rest.sum + x.rest.sum := by
  rcases (show i = 0 ∨ i = 1 by omega) with rfl | rfl
  · simp only [rsum, upd_same, upd_ne D x (show (1 : Nat) ≠ 0 by decide)]; omega
  · simp only [rsum, upd_same, upd_ne D x (show (0 : Nat) ≠ 1 by decide)]; omega

section
variable {S : Nat → Prop} {Wg nb K : Nat} {Low : Nat → Nat} {all : Nat → List Int} {Ld : Goroutine → World → Prop}
  {gs : Array Goroutine} {w w' : World} {sl : Option (Nat × Nat)} {j : Nat} {D : Nat → WD} {tag : CTag} {f0 d0 : Nat} {a : Goroutine} {t : Trace} {q : Nat → Nat} {T : Int} {B0 : Nat} {W : World}

theorem CntOk.same {D' : Nat → WD} (h : CntOk nb T D w) (hw : w'.heap[nb]? = w.heap[nb]?) (e : rsum D' = rsum D) : CntOk nb T D' w' := by
  obtain ⟨c, h1, h2, h3, h4⟩ := h
  exact ⟨c, hw.trans h1, h2, h3, by rw [e]; exact h4⟩

theorem okK_cell (i B : Nat) (b o : Nat) (x : Bool) (hb : b = Wg ∨ b = nb) (hB : b < B) : OkK S Wg nb Low B i (.ofEvent ⟨.cell ⟨b, o, none⟩, x, true⟩) := by
  refine ⟨fun y hy => ?_, by simp [MemAct.ofEvent], hB⟩
  simp only [MemAct.ofEvent, MemAct.touch?, Option.some.injEq] at hy
  subst hy
  exact .inl ⟨⟨_, rfl, hb⟩, rfl⟩
theorem okM_cell (j B : Nat) (b o : Nat) (x : Bool) (hb : b = Wg ∨ b = nb) (hB : b < B) : OkM S Wg nb Low B j (.ofEvent ⟨.cell ⟨b, o, none⟩, x, true⟩) := by
  refine ⟨fun y hy => ?_, by simp [MemAct.ofEvent], hB⟩
  simp only [MemAct.ofEvent, MemAct.touch?, Option.some.injEq] at hy
  subst hy
  exact .inl ⟨⟨_, rfl, hb⟩, by simp⟩
theorem okK_mute (i B : Nat) {e : Event} (h : e.mute = true) : OkK S Wg nb Low B i (.ofEvent e) := by
  refine ⟨fun y hy => (by rw [touch_mute h] at hy; cases hy), fun he => ?_, low_mute h B⟩
  obtain ⟨loc, wr, sy⟩ := e
  cases loc <;> simp_all [Event.mute, MemAct.ofEvent]

/-- ████ A WORKER's STEP. ████ -/
theorem stepWorker (G : Geo S Wg nb K Low B0) (hL : ∀ g w, Ld g w → g.status = .running)
    (ha : gs[0]? = some a) (hcs : CS S Wg nb Low all Ld tag j f0 d0 a w) (hc : Crew S Wg nb K Low all j gs w t D d0 q) (hk : Kp B0 W w) {st sm : Int} (hwg : WgAt 108 Wg w st sm) (hmode : Mode j D tag st sm) (hcnt : CntOk nb T D w) (hacq : tag = .ld → Acq Wg K j t)
    {i : Nat} (hi : i < j) {g : Goroutine} (hg : gs[K + i]? = some g) (hrun : g.status = .running) :
    ∃ m₁ ops μ', runT Try.prog (crowd gs w sl) (K + i) = (.next m₁, ops) ∧ Lt2 μ' (phi tag + sumTo 2 (fun i => len (D i)), f0 + 2 * (sumTo j (fun i => (D i).fuel) + sumTo K q)) ∧ Inv S Wg nb K Low all Ld T B0 W μ' m₁ (t ++ ops) := by
  obtain ⟨g1, hg1, hs⟩ := hc.wk i hi
  obtain rfl : g1 = g := by rw [hg] at hg1; exact (Option.some.inj hg1).symm
  have h2 := hcs.two
  have hi2 : i < 2 := by omega
  have hWL : Wg < Low i := Nat.lt_of_lt_of_le G.hW (G.mono 0 i (Nat.zero_le i))
  have hnL : nb < Low i := Nat.lt_of_lt_of_le G.hn (G.mono 0 i (Nat.zero_le i))
  have hdf := hc.deafW i hi
  have hrl := hc.rel i hi
  have hbd := hcs.bound
  have hst1 : ∀ s' : Nat, s' = (D i).stage → s' ≠ 1 → tag = .ld → False := fun s' e h1 e2 => h1 (e.trans (hmode.ldq e2 i hi))
  -- what is left of the release
  have hrel' : ∀ (es : Array Event) (fn : FuncId) (pos : String), (D i).stage ≤ 6 → (∀ p e, es[p]? = some e → (MemAct.ofEvent e).touch? = none ∨ ((∃ ad wr, e = ⟨.cell ad, wr, true⟩) ∧ 0 < deafBehind (Deaf t (K + i)) (es.extract 0 p))) →
      ∃ r, RelBy (stA Wg) (t ++ MemOp.ofEvents (K + i) fn pos es) (K + i) r := fun es fn pos hs he => let ⟨r, hr⟩ := hrl hs; ⟨r, hr.appOwn fn pos es he⟩
  generalize hD : D i = di at hs hdf hrl hrel' hst1
  obtain ⟨rest, stage, fuel, deaf⟩ := di
  simp only at hs hdf hrl hrel' hst1
  have same : ∀ (m' dd' : Nat), ∀ p, (upd D i ⟨rest, stage, m', dd'⟩ p).stage = (D p).stage := fun m' dd' p => by
    by_cases e : p = i
    · subst e; rw [upd_same, hD]
    · rw [upd_ne D _ e]
  have rs : ∀ (rest' : List Int) (s' m' dd' : Nat), rsum (upd D i ⟨rest', s', m', dd'⟩) = rsum D - rest.sum + rest'.sum := fun rest' s' m' dd' => by rw [rsum_upd D _ hi2, hD]
  -- a silent step
  have sil : ∀ {Stop : Goroutine → World → Prop} {m' : Nat} {g' : Goroutine} {w' : World} {es : Array Event}, fuel = m' + 1 → stage ≠ 1 → rest = [] → stepG Try.prog false g1 w = .go g' w' es → Sil w w' es → WS S Wg nb Low i [] stage m' deaf g' w →
      ∃ m₁ ops μ', runT Try.prog (crowd gs w sl) (K + i) = (.next m₁, ops) ∧ Lt2 μ' (phi tag + sumTo 2 (fun i => len (D i)), f0 + 2 * (sumTo j (fun i => (D i).fuel) + sumTo K q)) ∧ Inv S Wg nb K Low all Ld T B0 W μ' m₁ (t ++ ops) := by
    intro Stop m' g' w' es e1 e2 e3 hgo hsil hws
    obtain ⟨rfl, rfl⟩ := hsil
    subst e3
    refine workerStep G hL ha hcs hc hk hi hg hgo (RM.refl _) hws (by simp) (by rw [hD]; rfl) (fun hs6 => hrel' #[] _ _ hs6 (by simp)) hwg (fun tag' e _ => (hmode.retag e).same (same m' deaf)) (hcnt.same rfl (by rw [rs]; omega)) (fun e => (hst1 stage rfl e2 e).elim) (.inr ⟨by rw [hD]; rfl, by rw [hD]; exact e1.symm⟩)
  cases hs with
  | @add x r m _ _ h =>
    rcases goes_split (Env.refl w) h with ⟨_, hstop⟩ | ⟨m', g', w', es, rfl, hgo, ⟨rfl, hes⟩, h'⟩
    · -- it adds
      obtain ⟨c, hc1, hc2, hc3, hc4⟩ := hcnt
      obtain ⟨g', hgo, hadd⟩ := hstop c hc1
      have hwr : IntKind.u32.wrap (c + x) = (c + x) % 4294967296 := IntKind.wrap_u32 _
      have hnew := hc1.set (IntKind.u32.wrap (c + x))
      obtain ⟨m', hws⟩ : ∃ m', WS S Wg nb Low i r 7 m' 0 g' (w.setCell (cA nb) (.int .u32 (IntKind.u32.wrap (c + x)))) := by
        cases r with
        | nil => obtain ⟨m', h⟩ := hadd; exact ⟨m', .r0 h⟩
        | cons y r => obtain ⟨m', h⟩ := hadd; exact ⟨m', .add h⟩
      refine workerStep G hL ha hcs hc hk hi hg hgo (RM.of_cnt (Go.Conc.aside_setCell w (cA nb) _) ⟨_, hnew⟩ G.ne) hws ?_ (by rw [hD]; rfl) (fun h => absurd h (by omega)) (hwg.of_block (by rw [(Go.Conc.aside_setCell w (cA nb) _).block Wg G.ne])) (fun tag' e _ => (hmode.retag e).counted hi (by rw [hD]; simp) (.inl rfl)) ⟨_, hnew, by rw [hwr]; omega, by rw [hwr]; omega, ?_⟩ (fun e => (hst1 7 rfl (by omega) e).elim)
        (.inl (by rw [hD]; simp [len]))
      · intro e he
        simp only [List.mem_toArray, List.mem_cons, List.not_mem_nil, or_false] at he
        rcases he with rfl | rfl
        · exact okK_cell i _ nb 0 false (.inr rfl) hnL
        · exact okK_cell i _ nb 0 true (.inr rfl) hnL
      · rw [rs, hwr]
        simp only [List.sum_cons]
        omega
    · refine workerStep G hL ha hcs hc hk hi hg hgo (RM.refl _) (.add h') (fun e he => (hes e he).1) (by rw [hD]; exact deafBehind_still (fun e he => ⟨(hes e he).2.1, (hes e he).2.2⟩) 0) (fun h => absurd h (by omega)) hwg (fun tag' e _ => (hmode.retag e).same (same m' 0)) (hcnt.same rfl (by rw [rs]; omega)) (fun e => (hst1 7 rfl (by omega) e).elim) (.inr ⟨by rw [hD]; rfl, by rw [hD]⟩)
  | @r0 m _ _ h =>
    rcases goes_split (Env.refl w) h with ⟨_, g', hgo, m', h'⟩ | ⟨m', g', w', es, rfl, hgo, ⟨rfl, hes⟩, h'⟩
    · refine workerStep G hL ha hcs hc hk hi hg hgo (RM.refl _) (.k1 h') ?_ (by rw [hD]; rfl) (fun _ => ⟨_, RelBy.new hdf _ _⟩) hwg (fun tag' e _ => (hmode.retag e).counted hi (by rw [hD]; simp) (.inr (.inl rfl))) (hcnt.same rfl (by rw [rs]; omega)) (fun e => (hst1 7 rfl (by omega) e).elim) (.inl (by rw [hD]; simp [len]))
      intro e he
      rw [Array.mem_singleton] at he
      subst he
      exact ⟨fun y hy => by simp [mk, MemAct.ofEvent, MemAct.touch?] at hy, by simp [mk, MemAct.ofEvent], hWL⟩
    · refine workerStep G hL ha hcs hc hk hi hg hgo (RM.refl _) (.r0 h') (fun e he => (hes e he).1) (by rw [hD]; exact deafBehind_still (fun e he => ⟨(hes e he).2.1, (hes e he).2.2⟩) 0) (fun h => absurd h (by omega)) hwg (fun tag' e _ => (hmode.retag e).same (same m' 0)) (hcnt.same rfl (by rw [rs]; omega)) (fun e => (hst1 7 rfl (by omega) e).elim) (.inr ⟨by rw [hD]; rfl, by rw [hD]⟩)
  | @k1 m _ _ h =>
    rcases goes_split (Env.refl w) h with ⟨_, g', hgo, m', h'⟩ | ⟨m', g', w', es, rfl, hgo, hsil, h'⟩
    · refine workerStep G hL ha hcs hc hk hi hg hgo (RM.refl _) (.d1 h') ?_ (by rw [hD]; rfl) (fun _ => hrel' _ _ _ (by omega) (fun p e he => .inl ?_)) hwg (fun tag' e _ => (hmode.retag e).counted hi (by rw [hD]; simp) (.inr (.inr rfl))) (hcnt.same rfl (by rw [rs]; omega)) (fun e => (hst1 6 rfl (by omega) e).elim) (.inl (by rw [hD]; simp [len]))
      · intro e he
        rw [Array.mem_singleton] at he
        subst he
        exact okK_mute i _ rfl
      · have := Array.mem_of_getElem? he
        rw [Array.mem_singleton] at this
        subst this
        rfl
    · exact sil (Stop := fun _ _ => True) rfl (by omega) rfl hgo hsil (by obtain ⟨rfl, _⟩ := hsil; exact .k1 h')
  | @d1 m _ _ h =>
    have hv1 : 1 ≤ Vc j D := by
      have h1 := le_sumTo (f := fun p => cnt (D p)) hi
      have h2 : cnt (D i) = 1 := by unfold cnt; rw [hD]; rfl
      simp only [h2] at h1
      exact h1
    have hv2 : ∀ j', Vc j' D ≤ j' := fun j' => by
      induction j' with
      | zero => exact Nat.le_refl 0
      | succ j' ih =>
        have : cnt (D j') ≤ 1 := by unfold cnt; split <;> omega
        show sumTo j' _ + cnt (D j') ≤ j' + 1
        have : sumTo j' (fun p => cnt (D p)) ≤ j' := ih
        omega
    have atomic2 : ∀ p e, (#[rd (stA Wg), wr (stA Wg)] : Array Event)[p]? = some e → (MemAct.ofEvent e).touch? = none ∨ ((∃ ad wr, e = ⟨.cell ad, wr, true⟩) ∧ 0 < deafBehind (Deaf t (K + i)) ((#[rd (stA Wg), wr (stA Wg)] : Array Event).extract 0 p)) := by
      intro p e he
      have hlt := (Array.getElem?_eq_some_iff.1 he).1
      simp at hlt
      rcases (show p = 0 ∨ p = 1 by omega) with rfl | rfl
      · simp at he
        subst he
        exact .inr ⟨⟨_, _, rfl⟩, by rw [hdf]; simp [deafBehind]⟩
      · simp at he
        subst he
        exact .inr ⟨⟨_, _, rfl⟩, by rw [hdf]; simp [rd, deafBehind]⟩
    have ok2 : ∀ e ∈ (#[rd (stA Wg), wr (stA Wg)] : Array Event), OkK S Wg nb Low (Low i) i (.ofEvent e) := by
      intro e he
      simp only [List.mem_toArray, List.mem_cons, List.not_mem_nil, or_false] at he
      rcases he with rfl | rfl
      · exact okK_cell i _ Wg 0 false (.inl rfl) hWL
      · exact okK_cell i _ Wg 0 true (.inl rfl) hWL
    rcases goes_split (Env.refl w) h with ⟨_, hstop⟩ | ⟨m', g', w', es, rfl, hgo, hsil, h'⟩
    · -- the atomic add of -1
      have hquit : ∀ (v wt : Nat), v ≤ 1 → wt ≤ 1 → ((st : Int) = ((v + 1 : Nat) : Int) * KK + wt ∧ sm = 0) → ¬ (v = 0 ∧ wt = 1) →
          (∀ (tag' : CTag) (m' d' : Nat), (tag' = tag ∨ (tag = .blk ∧ tag' = .w3)) → Mode j (upd D i ⟨[], 1, m', d'⟩) tag' ((v : Int) * KK + wt) 0) →
          ∃ m₁ ops μ', runT Try.prog (crowd gs w sl) (K + i) = (.next m₁, ops) ∧ Lt2 μ' (phi tag + sumTo 2 (fun i => len (D i)), f0 + 2 * (sumTo j (fun i => (D i).fuel) + sumTo K q)) ∧ Inv S Wg nb K Low all Ld T B0 W μ' m₁ (t ++ ops) := by
        intro v wt hv hwt ⟨e1, e2⟩ hn hm
        subst e1 e2
        obtain ⟨g', hgo, _, hq⟩ := hstop v wt hv hwt hwg
        obtain ⟨m', hq⟩ := hq hn
        exact workerStep G hL ha hcs hc hk hi hg hgo (RM.of_wg (Go.Conc.aside_setCell w (stA Wg) _) ⟨_, _, hwg.setSt _⟩ G.ne.symm) (.quit hq) ok2 (by rw [hD]; rfl) (fun _ => hrel' _ _ _ (by omega) atomic2) (hwg.setSt _) (fun tag' e _ => hm tag' m' 1 e)
          (hcnt.same ((Go.Conc.aside_setCell w (stA Wg) _).block nb G.ne.symm) (by rw [rs]; omega)) (fun e => (hst1 5 rfl (by omega) e).elim) (.inl (by rw [hD]; simp [len]))
      have evq : ∀ m' d', Vc j (upd D i ⟨[], 1, m', d'⟩) + 1 = Vc j D := fun m' d' => by
        have := vc_upd D ⟨[], 1, m', d'⟩ hi
        have h2 : cnt (D i) = 1 := by unfold cnt; rw [hD]; rfl
        have h3 : cnt (⟨[], 1, m', d'⟩ : WD) = 0 := rfl
        omega
      have eoq : OpenSt j D → ∀ m' d', OpenSt j (upd D i ⟨[], 1, m', d'⟩) := fun h m' d' p hp => by
        by_cases e : p = i
        · subst e; rw [upd_same]; exact .inr (.inr (.inr rfl))
        · rw [upd_ne D _ e]; exact h p hp
      cases hmode with
      | opn h3 h4 h5 h6 =>
        refine hquit (Vc j D + pend tag - 1) 0 (by have := hv2 j; omega) (by omega) ⟨by rw [show Vc j D + pend tag - 1 + 1 = Vc j D + pend tag by omega]; simp, rfl⟩ (by omega) fun tag' m' d' e => ?_
        have hp : pend tag' = pend tag := by rcases e with rfl | ⟨rfl, rfl⟩ <;> rfl
        have hop : isOpen tag' := by
          rcases e with rfl | ⟨rfl, rfl⟩
          · exact h3
          · exact h3.elim
        have e1 := evq m' d'
        have hee : (((Vc j D + pend tag - 1 : Nat) : Int) * KK + ((0 : Nat) : Int)) = ((Vc j (upd D i ⟨[], 1, m', d'⟩) + pend tag' : Nat) : Int) * KK := by
          rw [hp, show Vc j D + pend tag - 1 = Vc j (upd D i ⟨[], 1, m', d'⟩) + pend tag by omega]; simp
        rw [hee]
        refine .opn hop (eoq h4 m' d') (fun n hn => ?_) (fun n vs hn => ?_)
        · rcases e with rfl | ⟨rfl, rfl⟩
          · have := h5 n hn; omega
          · cases hn
        · rcases e with rfl | ⟨rfl, rfl⟩
          · have := h6 n vs hn; omega
          · cases hn
      | reg h3 h4 h5 =>
        by_cases hv : Vc j D = 1
        · -- the last one, and the starter waits
          obtain ⟨g', hgo, hl, _⟩ := hstop 0 1 (by omega) (by omega) (by rw [hv] at hwg; simpa using hwg)
          obtain ⟨m', h'⟩ := hl ⟨rfl, rfl⟩
          refine workerStep G hL ha hcs hc hk hi hg hgo (RM.of_wg (Go.Conc.aside_setCell w (stA Wg) _) ⟨_, _, hwg.setSt _⟩ G.ne.symm) (.d2 h') ok2 (by rw [hD]; rfl) (fun _ => hrel' _ _ _ (by omega) atomic2) (hwg.setSt _) (fun tag' e _ => ?_)
            (hcnt.same ((Go.Conc.aside_setCell w (stA Wg) _).block nb G.ne.symm) (by rw [rs]; omega)) (fun e => (hst1 5 rfl (by omega) e).elim) (.inl (by rw [hD]; simp [len]))
          have hw3 : isW3 tag' := by
            rcases e with rfl | ⟨rfl, rfl⟩
            · exact h3
            · trivial
          have := Mode.last (D := upd D i ⟨[], 4, m', 1⟩) (tag := tag') i hw3 hi (by rw [upd_same]; exact .inl rfl) (fun p hp hne => by
            rw [upd_ne D _ hne]
            rcases h4 p hp with h | h | h | h
            · exfalso
              have h7 := vc_upd D ⟨[], 1, 0, 0⟩ hi
              have h8 : cnt (D i) = 1 := by unfold cnt; rw [hD]; rfl
              have h9 := le_sumTo (f := fun p => cnt (upd D i ⟨[], 1, 0, 0⟩ p)) hp
              have h10 : cnt (upd D i ⟨[], 1, 0, 0⟩ p) = 1 := by rw [upd_ne D _ hne]; unfold cnt; rw [if_pos (by omega)]
              have h11 : cnt (⟨[], 1, 0, 0⟩ : WD) = 0 := rfl
              simp only [h10] at h9
              have : Vc j (upd D i ⟨[], 1, 0, 0⟩) = sumTo j fun p => cnt (upd D i ⟨[], 1, 0, 0⟩ p) := rfl
              omega
            · exfalso
              have h7 := vc_upd D ⟨[], 1, 0, 0⟩ hi
              have h8 : cnt (D i) = 1 := by unfold cnt; rw [hD]; rfl
              have h9 := le_sumTo (f := fun p => cnt (upd D i ⟨[], 1, 0, 0⟩ p)) hp
              have h10 : cnt (upd D i ⟨[], 1, 0, 0⟩ p) = 1 := by rw [upd_ne D _ hne]; unfold cnt; rw [if_pos (by omega)]
              have h11 : cnt (⟨[], 1, 0, 0⟩ : WD) = 0 := rfl
              simp only [h10] at h9
              have : Vc j (upd D i ⟨[], 1, 0, 0⟩) = sumTo j fun p => cnt (upd D i ⟨[], 1, 0, 0⟩ p) := rfl
              omega
            · exfalso
              have h7 := vc_upd D ⟨[], 1, 0, 0⟩ hi
              have h8 : cnt (D i) = 1 := by unfold cnt; rw [hD]; rfl
              have h9 := le_sumTo (f := fun p => cnt (upd D i ⟨[], 1, 0, 0⟩ p)) hp
              have h10 : cnt (upd D i ⟨[], 1, 0, 0⟩ p) = 1 := by rw [upd_ne D _ hne]; unfold cnt; rw [if_pos (by omega)]
              have h11 : cnt (⟨[], 1, 0, 0⟩ : WD) = 0 := rfl
              simp only [h10] at h9
              have : Vc j (upd D i ⟨[], 1, 0, 0⟩) = sumTo j fun p => cnt (upd D i ⟨[], 1, 0, 0⟩ p) := rfl
              omega
            · exact h)
          rw [upd_same] at this
          simpa using this
        · refine hquit (Vc j D - 1) 1 (by have := hv2 j; omega) (by omega) ⟨by rw [show Vc j D - 1 + 1 = Vc j D by omega]; rfl, rfl⟩ (by omega) fun tag' m' d' e => ?_
          have e1 := evq m' d'
          have hw3 : isW3 tag' := by
            rcases e with rfl | ⟨rfl, rfl⟩
            · exact h3
            · trivial
          have hee : (((Vc j D - 1 : Nat) : Int) * KK + ((1 : Nat) : Int)) = ((Vc j (upd D i ⟨[], 1, m', d'⟩) : Nat) : Int) * KK + 1 := by
            rw [show Vc j D - 1 = Vc j (upd D i ⟨[], 1, m', d'⟩) by omega]; simp
          rw [hee]
          exact .reg hw3 (eoq h4 m' d') (by omega)
      | last L _ h4 h5 h6 =>
        exfalso
        by_cases e : i = L
        · subst e; rw [hD] at h5; simp at h5
        · have := h6 i hi e; rw [hD] at this; simp at this
      | sema h => exact absurd (h i hi) (by rw [hD]; simp)
      | fin _ h => exact absurd (h i hi) (by rw [hD]; simp)
    · exact sil (Stop := fun _ _ => True) rfl (by omega) rfl hgo hsil (by obtain ⟨rfl, _⟩ := hsil; exact .d1 h')
  | @d2 m _ _ h =>
    rcases goes_split (Env.refl w) h with ⟨_, hstop⟩ | ⟨m', g', w', es, rfl, hgo, hsil, h'⟩
    · cases hmode with
      | last L h3 h4 h5 h6 =>
        have e : i = L := by
          by_cases e : i = L
          · exact e
          · have := h6 i hi e; rw [hD] at this; simp at this
        subst e
        rw [hD] at hwg
        simp at hwg
        obtain ⟨g', hgo, m', h'⟩ := hstop hwg
        refine workerStep G hL ha hcs hc hk hi hg hgo (RM.refl _) (.d3 h') ?_ (by rw [hD]; rfl) (fun _ => hrel' _ _ _ (by omega) (fun p e he => .inr ?_)) hwg (fun tag' e _ => ?_) (hcnt.same rfl (by rw [rs]; omega)) (fun e => (hst1 4 rfl (by omega) e).elim) (.inl (by rw [hD]; simp [len]))
        · intro e he
          rw [Array.mem_singleton] at he
          subst he
          exact okK_cell i _ Wg 0 false (.inl rfl) hWL
        · have hlt := (Array.getElem?_eq_some_iff.1 he).1
          simp at hlt
          subst hlt
          simp at he
          subst he
          exact ⟨⟨_, _, rfl⟩, by rw [hdf]; simp [deafBehind]⟩
        · have hw3 : isW3 tag' := by
            rcases e with rfl | ⟨rfl, rfl⟩
            · exact h3
            · trivial
          have := Mode.last (D := upd D i ⟨[], 3, m', 1⟩) (tag := tag') i hw3 hi (by rw [upd_same]; exact .inr (.inl rfl)) (fun p hp hne => by rw [upd_ne D _ hne]; exact h6 p hp hne)
          rw [upd_same] at this
          simpa using this
      | opn h3 h4 _ _ => exact absurd (h4 i hi) (by rw [hD]; simp)
      | reg h3 h4 _ => exact absurd (h4 i hi) (by rw [hD]; simp)
      | sema h => exact absurd (h i hi) (by rw [hD]; simp)
      | fin _ h => exact absurd (h i hi) (by rw [hD]; simp)
    · exact sil (Stop := fun _ _ => True) rfl (by omega) rfl hgo hsil (by obtain ⟨rfl, _⟩ := hsil; exact .d2 h')
  | @d3 m _ _ h =>
    rcases goes_split (Env.refl w) h with ⟨_, hstop⟩ | ⟨m', g', w', es, rfl, hgo, hsil, h'⟩
    · cases hmode with
      | last L h3 h4 h5 h6 =>
        have e : i = L := by
          by_cases e : i = L
          · exact e
          · have := h6 i hi e; rw [hD] at this; simp at this
        subst e
        rw [hD] at hwg
        simp at hwg
        obtain ⟨g', hgo, m', h'⟩ := hstop hwg
        refine workerStep G hL ha hcs hc hk hi hg hgo (RM.of_wg (Go.Conc.aside_setCell w (stA Wg) _) ⟨_, _, hwg.setSt _⟩ G.ne.symm) (.d4 h') ?_ (by rw [hD]; rfl) (fun _ => hrel' _ _ _ (by omega) (fun p e he => .inr ?_)) (hwg.setSt _) (fun tag' e _ => ?_)
          (hcnt.same ((Go.Conc.aside_setCell w (stA Wg) _).block nb G.ne.symm) (by rw [rs]; omega)) (fun e => (hst1 3 rfl (by omega) e).elim) (.inl (by rw [hD]; simp [len]))
        · intro e he
          rw [Array.mem_singleton] at he
          subst he
          exact okK_cell i _ Wg 0 true (.inl rfl) hWL
        · have hlt := (Array.getElem?_eq_some_iff.1 he).1
          simp at hlt
          subst hlt
          simp at he
          subst he
          exact ⟨⟨_, _, rfl⟩, by rw [hdf]; simp [deafBehind]⟩
        · have hw3 : isW3 tag' := by
            rcases e with rfl | ⟨rfl, rfl⟩
            · exact h3
            · trivial
          have := Mode.last (D := upd D i ⟨[], 2, m', 1⟩) (tag := tag') i hw3 hi (by rw [upd_same]; exact .inr (.inr rfl)) (fun p hp hne => by rw [upd_ne D _ hne]; exact h6 p hp hne)
          rw [upd_same] at this
          simpa using this
      | opn h3 h4 _ _ => exact absurd (h4 i hi) (by rw [hD]; simp)
      | reg h3 h4 _ => exact absurd (h4 i hi) (by rw [hD]; simp)
      | sema h => exact absurd (h i hi) (by rw [hD]; simp)
      | fin _ h => exact absurd (h i hi) (by rw [hD]; simp)
    · exact sil (Stop := fun _ _ => True) rfl (by omega) rfl hgo hsil (by obtain ⟨rfl, _⟩ := hsil; exact .d3 h')
  | @d4 m _ _ h =>
    rcases goes_split (Env.refl w) h with ⟨_, hmw, hstop⟩ | ⟨m', g', w', es, rfl, hgo, hsil, h'⟩
    · cases hmode with
      | last L h3 h4 h5 h6 =>
        have e : i = L := by
          by_cases e : i = L
          · exact e
          · have := h6 i hi e; rw [hD] at this; simp at this
        subst e
        rw [hD] at hwg
        simp at hwg
        obtain ⟨g', hgo, m', hq⟩ := hstop hwg
        have hgr : g'.status = .running := by
          cases m' with
          | zero => exact absurd hq.2 (by decide)
          | succ m' => exact hq.elim (fun h => absurd h.2 (by decide)) fun h => h.1
        refine workerStep G hL ha hcs hc hk hi hg hgo (RM.of_wg (Go.Conc.aside_setCell w (smA Wg) _) ⟨_, _, hwg.setSm 1⟩ G.ne.symm) (.quit hq) ?_ (by rw [hD]; rfl) (fun _ => hrel' _ _ _ (by omega) (fun p e he => ?_)) (hwg.setSm 1) (fun tag' e hwk => ?_)
          (hcnt.same ((Go.Conc.aside_setCell w (smA Wg) _).block nb G.ne.symm) (by rw [rs]; omega)) (fun e => (hst1 2 rfl (by omega) e).elim) (.inl (by rw [hD]; simp [len]))
        · intro e he
          simp only [semEvents, List.mem_toArray, List.mem_cons, List.not_mem_nil, or_false] at he
          rcases he with rfl | rfl | rfl | rfl
          · exact okK_mute i _ rfl
          · exact okK_cell i _ Wg 1 false (.inl rfl) hWL
          · exact okK_cell i _ Wg 1 true (.inl rfl) hWL
          · exact okK_mute i _ rfl
        · have hlt := (Array.getElem?_eq_some_iff.1 he).1
          simp [semEvents] at hlt
          rcases (show p = 0 ∨ p = 1 ∨ p = 2 ∨ p = 3 by omega) with rfl | rfl | rfl | rfl
          · simp [semEvents] at he
            subst he
            exact .inl rfl
          · simp [semEvents] at he
            subst he
            exact .inr ⟨⟨_, _, rfl⟩, by rw [hdf]; simp [semEvents, deafBehind]⟩
          · simp [semEvents] at he
            subst he
            exact .inr ⟨⟨_, _, rfl⟩, by rw [hdf]; simp [semEvents, deafBehind]⟩
          · simp [semEvents] at he
            subst he
            exact .inl rfl
        · have hw3 : tag' = .w3 := by
            have hne := hwk hmw hgr
            rcases e with rfl | ⟨rfl, rfl⟩
            · cases tag' <;> simp_all [isW3]
            · rfl
          subst hw3
          exact .sema fun p hp => by
            by_cases e : p = i
            · subst e; rw [upd_same]
            · rw [upd_ne D _ e]; exact h6 p hp e
      | opn h3 h4 _ _ => exact absurd (h4 i hi) (by rw [hD]; simp)
      | reg h3 h4 _ => exact absurd (h4 i hi) (by rw [hD]; simp)
      | sema h => exact absurd (h i hi) (by rw [hD]; simp)
      | fin _ h => exact absurd (h i hi) (by rw [hD]; simp)
    · exact sil (Stop := fun _ _ => True) rfl (by omega) rfl hgo hsil (by obtain ⟨rfl, _⟩ := hsil; exact .d4 h')
  | quit h =>
    cases fuel with
    | zero => rw [h.1] at hrun; cases hrun
    | succ k =>
      rcases h with ⟨hf, _⟩ | ⟨_, g', es, hm, hst, hq'⟩
      · rw [hf] at hrun; cases hrun
      have hown : ∀ p e, es[p]? = some e → (MemAct.ofEvent e).touch? = none ∨ ((∃ ad wr, e = ⟨.cell ad, wr, true⟩) ∧ 0 < deafBehind (Deaf t (K + i)) (es.extract 0 p)) := fun p e he => .inl (touch_mute (hm e (Array.mem_of_getElem? he)))
      refine workerStep G hL ha hcs hc hk hi hg (hst w) (RM.refl _) (.quit hq') (fun e he => okK_mute i _ (hm e he)) (by rw [hD]) (fun _ => hrel' _ _ _ (by omega) hown) hwg (fun tag' e _ => (hmode.retag e).same (same k _)) (hcnt.same rfl (by rw [rs]; omega)) (fun e => (hacq e).app fun p r hp hr => ?_) (.inr ⟨by rw [hD]; rfl, by rw [hD]⟩)
      by_cases e : p = i
      · subst e; exact hr.appOwn _ _ es hown
      · exact hr.appOther ofEvents_g (by omega)
end
end Go.Proofs.Ytnikfjfcbpeieaa.Lk
end
section
namespace Go.Proofs.Ytnikfjfcbpeieaa.Lk
open Go Go.Conc
open Go.ConcN (sumTo upd sumTo_upd sumTo_upd_out upd_ne upd_same sumTo_congr RelBy le_sumTo Deaf_still)
open Go.ConcR (KK wgBlock WgAt stA smA rd wr mk)
set_option linter.unusedVariables false
set_option linter.unusedSimpArgs false

theorem goes_split2 {P : Program} {main : Bool} {R : World → World → Prop} {D : World → World → Array Event → Prop} {Stop : Goroutine → World → Prop} {m : Nat} {g : Goroutine} {w : World} (hr : R w w) (h : Goes P main R D Stop m g w) :
    (∀ w₁, R w w₁ → Stop g w₁) ∨ ∃ m' g' w' es, m = m' + 1 ∧ stepG P main g w = .go g' w' es ∧ D w w' es ∧ Goes P main R D Stop m' g' w' := by
  cases m with
  | zero => exact .inl h
  | succ m =>
    rcases h with h | ⟨_, h⟩
    · exact .inl h
    · have := h w hr
      revert this
      cases hs : stepG P main g w <;> simp only [GStep.goes, false_implies]
      exact fun ⟨d, x⟩ => .inr ⟨m, _, _, _, rfl, rfl, d, x⟩

theorem vc_le {D : Nat → WD} : ∀ j, Vc j D ≤ j
  | 0 => Nat.le_refl 0
  | j + 1 => by
    have : cnt (D j) ≤ 1 := by unfold cnt; split <;> omega
    have h : sumTo j (fun p => cnt (D p)) ≤ j := vc_le j
    show sumTo j (fun p => cnt (D p)) + cnt (D j) ≤ j + 1
    omega
theorem vc_quit {D : Nat → WD} : ∀ j, AllQuit j D → Vc j D = 0
  | 0, _ => rfl
  | j + 1, h => by
    have h1 : sumTo j (fun p => cnt (D p)) = 0 := vc_quit j fun i hi => h i (by omega)
    have h2 : cnt (D j) = 0 := by unfold cnt; rw [h j (by omega)]; rfl
    show sumTo j (fun p => cnt (D p)) + cnt (D j) = 0
    omega
theorem quit_of {j : Nat} {D : Nat → WD} (ho : OpenSt j D) (hv : Vc j D = 0) : AllQuit j D := fun i hi => by
  have h1 := le_sumTo (f := fun p => cnt (D p)) hi
  have h2 : cnt (D i) = 0 := by
    have : sumTo j (fun p => cnt (D p)) = 0 := hv
    omega
  unfold cnt at h2
  rcases ho i hi with h | h | h | h
  · rw [h] at h2; simp at h2
  · rw [h] at h2; simp at h2
  · rw [h] at h2; simp at h2
  · exact h

theorem Mode.inv {j : Nat} {D : Nat → WD} {tag : CTag} {st sm : Int} (h : Mode j D tag st sm) (ho : isOpen tag) :
    OpenSt j D ∧ st = ((Vc j D + pend tag : Nat) : Int) * KK ∧ sm = 0 ∧ (∀ n, tag = .w1 n → Vc j D ≤ n) ∧ (∀ n vs, tag = .w2 n vs → Vc j D ≤ vs) := by
  cases h with
  | opn h1 h2 h3 h4 => exact ⟨h2, rfl, rfl, h3, h4⟩
  | reg h _ _ => cases tag <;> simp_all [isW3, isOpen]
  | last _ h _ _ _ => cases tag <;> simp_all [isW3, isOpen]
  | sema _ => exact ho.elim
  | fin h _ => cases tag <;> simp_all [isFin, isOpen]
theorem Mode.inv_fin {j : Nat} {D : Nat → WD} {tag : CTag} {st sm : Int} (h : Mode j D tag st sm) (ho : isFin tag) : AllQuit j D ∧ st = 0 ∧ sm = 0 := by
  cases h with
  | opn h1 h2 h3 h4 => cases tag <;> simp_all [isFin, isOpen]
  | reg h _ _ => cases tag <;> simp_all [isW3, isFin]
  | last _ h _ _ _ => cases tag <;> simp_all [isW3, isFin]
  | sema _ => exact ho.elim
  | fin h h2 => exact ⟨h2, rfl, rfl⟩

section
variable {S : Nat → Prop} {Wg nb K : Nat} {Low : Nat → Nat} {all : Nat → List Int} {Ld : Goroutine → World → Prop}
  {gs : Array Goroutine} {w w' : World} {sl : Option (Nat × Nat)} {j : Nat} {D : Nat → WD} {tag : CTag} {f0 d0 : Nat} {a : Goroutine} {t : Trace} {q : Nat → Nat} {T : Int} {B0 : Nat} {W : World}

theorem okM_mute (j B : Nat) {e : Event} (h : e.mute = true) : OkM S Wg nb Low B j (.ofEvent e) := by
  refine ⟨fun y hy => (by rw [touch_mute h] at hy; cases hy), fun he => ?_, low_mute h B⟩
  obtain ⟨loc, wr, sy⟩ := e
  cases loc <;> simp_all [Event.mute, MemAct.ofEvent]

theorem adds_ws {i : Nat} {l : List Int} {g : Goroutine} (h : Adds S Wg nb Low i l g w) : ∃ m, WS S Wg nb Low i l 7 m 0 g w := by
  cases l with
  | nil => obtain ⟨m, h⟩ := h; exact ⟨m, .r0 h⟩
  | cons x r => obtain ⟨m, h⟩ := h; exact ⟨m, .add h⟩

theorem crew_spawn (G : Geo S Wg nb K Low B0) (hj : j < 2) (hc : Crew S Wg nb K Low all j gs w t D 0 q) {a' child : Goroutine} {x y : MemOp} (hx : x.g = 0 ∧ x.act = .go (K + j)) (hy : y.g = K + j ∧ y.act = .start) {m : Nat} (hws : WS S Wg nb Low j (all j) 7 m 0 child w) (hroom : Low j ≤ w.heap.size) :
    Crew S Wg nb K Low all (j + 1) ((gs.setIfInBounds 0 a').push child) w (t ++ #[x, y]) (upd D j ⟨all j, 7, m, 0⟩) 0 q := by
  have hm : ∀ op ∈ #[x, y], op = x ∨ op = y := by intro op hop; simpa using hop
  have hst : ∀ op ∈ #[x, y], op.act ≠ .mark .disable ∧ op.act ≠ .mark .enable := by
    intro op hop
    rcases hm op hop with rfl | rfl
    · rw [hx.2]; exact ⟨by simp, by simp⟩
    · rw [hy.2]; exact ⟨by simp, by simp⟩
  have hK := G.hK
  have hsz := hc.size
  have hget : ∀ p, 0 < p → p < K + j → ((gs.setIfInBounds 0 a').push child)[p]? = gs[p]? := fun p h0 hp => by
    rw [Array.getElem?_push_lt (by simp [hsz]; omega), ← Array.getElem?_eq_getElem, Array.getElem?_setIfInBounds_ne (by omega)]
  refine ⟨by simp [hsz]; omega, fun p g h0 hp hg => ?_, fun i hi => ?_, hc.mid.fork hx hy hc.deaf0 (hc.above _ (Nat.le_refl _)), by rw [Deaf_still t 0 _ hst, hc.deaf0], fun i hi => ?_, fun i hi hs => ?_, fun p hp => ?_, fun i hi => ?_, fun i hi => ?_⟩
  · rw [hget p h0 (by omega)] at hg
    rw [Deaf_still t p _ hst]
    exact hc.old p g h0 hp hg
  · rcases Nat.lt_or_ge i j with hlt | hge
    · obtain ⟨g, hg, hs⟩ := hc.wk i hlt
      exact ⟨g, by rw [hget _ (by omega) (by omega)]; exact hg, by rw [upd_ne D _ (by omega)]; exact hs⟩
    · obtain rfl : i = j := by omega
      refine ⟨child, ?_, by rw [upd_same]; exact hws⟩
      rw [show K + i = (gs.setIfInBounds 0 a').size by simp [hsz], Array.getElem?_push_size]
  · rw [Deaf_still t _ _ hst]
    rcases Nat.lt_or_ge i j with hlt | hge
    · rw [hc.deafW i hlt, upd_ne D _ (by omega)]
    · obtain rfl : i = j := by omega
      rw [upd_same]
      exact hc.above _ (Nat.le_refl _)
  · rcases Nat.lt_or_ge i j with hlt | hge
    · rw [upd_ne D _ (by omega)] at hs
      obtain ⟨r, hr⟩ := hc.rel i hlt hs
      refine ⟨r, Go.ConcN.RelBy.appNot hr fun op hop => ?_⟩
      rcases hm op hop with rfl | rfl
      · rw [hx.1]; omega
      · rw [hy.1]; omega
    · obtain rfl : i = j := by omega
      rw [upd_same] at hs
      simp at hs
  · rw [Deaf_still t _ _ hst]; exact hc.above p (by omega)
  · rw [upd_ne D _ (by omega)]; exact hc.fresh i (by omega)
  · rcases Nat.lt_or_ge i j with hlt | hge
    · exact hc.room i hlt
    · obtain rfl : i = j := by omega
      exact hroom

/-- ████ THE STARTER's STEP. ████ -/
theorem stepCaller (G : Geo S Wg nb K Low B0) (hL : ∀ g w, Ld g w → g.status = .running)
    (ha : gs[0]? = some a) (hcs : CS S Wg nb Low all Ld tag j f0 d0 a w) (hc : Crew S Wg nb K Low all j gs w t D d0 q) (hk : Kp B0 W w) {st sm : Int} (hwg : WgAt 108 Wg w st sm) (hmode : Mode j D tag st sm) (hcnt : CntOk nb T D w) (hacq : tag = .ld → Acq Wg K j t) (hrun : a.status = .running) :
    (tag = .ld ∧ Ld a w) ∨ ∃ m₁ ops μ', runT Try.prog (crowd gs w sl) 0 = (.next m₁, ops) ∧ Lt2 μ' (phi tag + sumTo 2 (fun i => len (D i)), f0 + 2 * (sumTo j (fun i => (D i).fuel) + sumTo K q)) ∧ Inv S Wg nb K Low all Ld T B0 W μ' m₁ (t ++ ops) := by
  have h2 := hcs.two
  have hKp := G.hK
  have hWs : Wg < w.heap.size := (Array.getElem?_eq_some_iff.1 hwg).1
  -- an idle step
  have idle : ∀ {m' : Nat} {a' : Goroutine} {w' : World} {es : Array Event}, f0 = m' + 1 → stepG Try.prog true a w = .go a' w' es → DM S Wg nb Low j w w' es → CS S Wg nb Low all Ld tag j m' d0 a' w' →
      ∃ m₁ ops μ', runT Try.prog (crowd gs w sl) 0 = (.next m₁, ops) ∧ Lt2 μ' (phi tag + sumTo 2 (fun i => len (D i)), f0 + 2 * (sumTo j (fun i => (D i).fuel) + sumTo K q)) ∧ Inv S Wg nb K Low all Ld T B0 W μ' m₁ (t ++ ops) := by
    intro m' a' w' es e1 hgo ⟨hkp, hes⟩ hcs'
    have hL0 : Low 0 ≤ Low (j - 1) := G.mono _ _ (Nat.zero_le _)
    have hW := G.hW
    have hn := G.hn
    have hbW := G.bW
    have hd : deafBehind d0 es = d0 := deafBehind_still (fun e he => ⟨(hes e he).2.1, (hes e he).2.2⟩) d0
    refine callerStep G ha h2 hc hk hgo (fun i hi => hkp.env (G.mono i (j - 1) (by omega)) (by omega) (by omega)) (hkp.mono (by omega)) (fun e he => (hes e he).1) (by rw [hd]; exact hcs') ((hkp.block Wg (by omega)).trans hwg) hmode (hcnt.same (hkp.block nb (by omega)) rfl) (fun e => (hacq e).app fun i r hi hr => hr.appOther ofEvents_g (by omega)) (.inr ⟨rfl, by omega⟩)
  -- a step of the group's own
  have book : ∀ {a' : Goroutine} {w' : World} {es : Array Event} {tag' : CTag} {f' : Nat} {st' sm' : Int}, stepG Try.prog true a w = .go a' w' es → Aside Wg w w' → WgAt 108 Wg w' st' sm' → (∀ e ∈ es, OkM S Wg nb Low w'.heap.size j (.ofEvent e)) →
      CS S Wg nb Low all Ld tag' j f' (deafBehind d0 es) a' w' → Mode j D tag' st' sm' → (tag' = .ld → Acq Wg K j (t ++ MemOp.ofEvents 0 a.frame.fn a.frame.place es)) → (phi tag' < phi tag ∨ (phi tag' = phi tag ∧ f' < f0)) →
      ∃ m₁ ops μ', runT Try.prog (crowd gs w sl) 0 = (.next m₁, ops) ∧ Lt2 μ' (phi tag + sumTo 2 (fun i => len (D i)), f0 + 2 * (sumTo j (fun i => (D i).fuel) + sumTo K q)) ∧ Inv S Wg nb K Low all Ld T B0 W μ' m₁ (t ++ ops) := by
    intro a' w' es tag' f' st' sm' hgo hA hwg' hok hcs' hm ha' hlt
    have hM : RM Wg nb w w' := RM.of_wg hA ⟨_, _, hwg'⟩ G.ne.symm
    exact callerStep G ha h2 hc hk hgo (fun i hi => hM.env) (hM.kp G.bW G.bn) hok hcs' hwg' hm (hcnt.same (hA.block nb G.ne.symm) rfl) ha' hlt
  have asA : Aside Wg w w := ⟨rfl, rfl, rfl, rfl, fun _ _ => rfl⟩
  have one : ∀ (e : Event) (B : Nat), OkM S Wg nb Low B j (.ofEvent e) → ∀ e' ∈ (#[e] : Array Event), OkM S Wg nb Low B j (.ofEvent e') := fun e B h e' he => by rw [Array.mem_singleton] at he; subst he; exact h
  have okrd : ∀ e ∈ (#[rd (stA Wg)] : Array Event), OkM S Wg nb Low w.heap.size j (.ofEvent e) := one _ _ (okM_cell j _ Wg 0 false (.inl rfl) hWs)
  have szS : ∀ v, (w.setCell (stA Wg) v).heap.size = w.heap.size := fun v => (Go.Conc.aside_setCell w (stA Wg) v).size
  have okrw : ∀ v, ∀ e ∈ (#[rd (stA Wg), wr (stA Wg)] : Array Event), OkM S Wg nb Low (w.setCell (stA Wg) v).heap.size j (.ofEvent e) := fun v e he => by
    rw [szS]
    simp only [List.mem_toArray, List.mem_cons, List.not_mem_nil, or_false] at he
    rcases he with rfl | rfl
    · exact okM_cell j _ Wg 0 false (.inl rfl) hWs
    · exact okM_cell j _ Wg 0 true (.inl rfl) hWs
  cases hcs with
  | @skd r m _ _ hr h =>
    rcases goes_split2 (RM.refl w) h with hstop | ⟨m', a', w', es, e1, hgo, hD, h'⟩
    · obtain ⟨_, a', hgo, m₂, hk'⟩ := hstop w (RM.refl w)
      obtain ⟨ho, rfl, rfl, _, _⟩ := hmode.inv trivial
      exact .inr (book hgo asA hwg (one _ _ (okM_mute _ _ rfl)) (.sa hr hk') (.opn (tag := .sp r 4) trivial ho (by simp) (by simp)) (by simp) (.inl (by simp only [phi]; omega)))
    · exact .inr (idle e1 hgo hD (.skd hr h'))
  | @sa r m _ _ hr h =>
    rcases goes_split2 (RM.refl w) h with hstop | ⟨m', a', w', es, e1, hgo, hD, h'⟩
    · obtain ⟨_, hst⟩ := hstop w (RM.refl w)
      obtain ⟨ho, rfl, rfl, _, _⟩ := hmode.inv trivial
      have hv := vc_le (D := D) (2 - (r + 1))
      obtain ⟨a', hgo, m₂, hk'⟩ := hst (Vc (2 - (r + 1)) D) (by omega) (by simpa [pend] using hwg)
      refine .inr (book hgo (Go.Conc.aside_setCell w (stA Wg) _) (hwg.setSt _) (okrw _) (.ske hr hk') ?_ (by simp) (.inl (by simp only [phi]; omega)))
      exact .opn (tag := .sp r 3) trivial ho (by simp) (by simp)
    · exact .inr (idle e1 hgo hD (.sa hr h'))
  | @ske r m _ _ hr h =>
    rcases goes_split2 (RM.refl w) h with hstop | ⟨m', a', w', es, e1, hgo, hD, h'⟩
    · obtain ⟨_, a', hgo, m₂, hk'⟩ := hstop w (RM.refl w)
      obtain ⟨ho, rfl, rfl, _, _⟩ := hmode.inv trivial
      exact .inr (book hgo asA hwg (one _ _ (okM_mute _ _ rfl)) (.sgo hr hk') (.opn (tag := .sp r 2) trivial ho (by simp) (by simp)) (by simp) (.inl (by simp only [phi]; omega)))
    · exact .inr (idle e1 hgo hD (.ske hr h'))
  | @sgo r m _ _ hr h =>
    rcases goes_split2 (RM.refl w) h with hstop | ⟨m', a', w', es, e1, hgo, hD, h'⟩
    · obtain ⟨_, a', child, hsp, _, hadd, hnext, hroom⟩ := hstop w (RM.refl w)
      obtain ⟨m₂, hws⟩ := adds_ws hadd
      obtain ⟨ho, rfl, rfl, _, _⟩ := hmode.inv trivial
      have hrun' := runT_crowd_spawn (P := Try.prog) (sl := sl) (i := 0) ha (by simpa using hsp)
      rw [hc.size] at hrun'
      have hc' := crew_spawn (a' := a') G (by omega) hc (x := { g := 0, fn := a.frame.fn, pos := a.frame.place, act := .go (K + (2 - (r + 1))) }) (y := { g := K + (2 - (r + 1)), fn := child.frame.fn, pos := a.frame.place, act := .start }) ⟨rfl, rfl⟩ ⟨rfl, rfl⟩ hws hroom
      obtain ⟨fr1, fr2⟩ := hc.fresh (2 - (r + 1)) (Nat.le_refl _)
      have ha' : ((gs.setIfInBounds 0 a').push child)[0]? = some a' := by
        have := hc.size
        rw [Array.getElem?_push_lt (by simp; omega), ← Array.getElem?_eq_getElem, Array.getElem?_setIfInBounds_self_of_lt (by omega)]
      have eV : Vc (2 - (r + 1) + 1) (upd D (2 - (r + 1)) ⟨all (2 - (r + 1)), 7, m₂, 0⟩) = Vc (2 - (r + 1)) D + 1 := by
        simp only [Vc, sumTo, upd_same]
        rw [sumTo_upd_out D _ cnt (Nat.le_refl _)]; rfl
      have ho' : OpenSt (2 - (r + 1) + 1) (upd D (2 - (r + 1)) ⟨all (2 - (r + 1)), 7, m₂, 0⟩) := fun i hi => by
        by_cases e : i = 2 - (r + 1)
        · subst e; rw [upd_same]; exact .inl rfl
        · rw [upd_ne D _ e]; exact ho i (by omega)
      have eL : sumTo 2 (fun i => len (upd D (2 - (r + 1)) ⟨all (2 - (r + 1)), 7, m₂, 0⟩ i)) = sumTo 2 (fun i => len (D i)) := sumTo_congr fun i hi => by
        by_cases e : i = 2 - (r + 1)
        · subst e; rw [upd_same]; simp only [len]; rw [fr1, fr2]
        · rw [upd_ne D _ e]
      have eR : CntOk nb T (upd D (2 - (r + 1)) ⟨all (2 - (r + 1)), 7, m₂, 0⟩) w := hcnt.same rfl (by rw [rsum_upd D _ (by omega), fr1]; simp)
      have est : ∀ tag', pend tag' = 0 → ((Vc (2 - (r + 1)) D + pend (.sp r 2) : Nat) : Int) * KK = ((Vc (2 - (r + 1) + 1) (upd D (2 - (r + 1)) ⟨all (2 - (r + 1)), 7, m₂, 0⟩) + pend tag' : Nat) : Int) * KK := fun tag' hp => by rw [eV, hp]; simp [pend]
      rcases (show r = 0 ∨ r = 1 by omega) with rfl | rfl
      · obtain ⟨m₃, hk'⟩ := hnext
        refine .inr ⟨_, _, (phi .kd + sumTo 2 (fun i => len (upd D (2 - (0 + 1)) ⟨all (2 - (0 + 1)), 7, m₂, 0⟩ i)), m₃ + 2 * (sumTo 2 (fun i => (upd D (2 - (0 + 1)) ⟨all (2 - (0 + 1)), 7, m₂, 0⟩ i).fuel) + sumTo K q)), hrun', Prod.Lex.left _ _ (by rw [eL]; simp only [phi]; omega),
          _, w, sl, 2, _, .kd, m₃, 0, a', _, _, q, rfl, ha', .kd hk', hc', hwg, ?_, eR, by simp, hk, rfl⟩
        rw [est .kd rfl]
        exact .opn trivial ho' (by simp) (by simp)
      · obtain ⟨m₃, hk'⟩ := hnext
        refine .inr ⟨_, _, (phi (.sp 0 5) + sumTo 2 (fun i => len (upd D (2 - (1 + 1)) ⟨all (2 - (1 + 1)), 7, m₂, 0⟩ i)), m₃ + 2 * (sumTo 1 (fun i => (upd D (2 - (1 + 1)) ⟨all (2 - (1 + 1)), 7, m₂, 0⟩ i).fuel) + sumTo K q)), hrun', Prod.Lex.left _ _ (by rw [eL]; simp only [phi]; omega),
          _, w, sl, 1, _, .sp 0 5, m₃, 0, a', _, _, q, rfl, ha', .skd (r := 0) (by omega) hk', hc', hwg, ?_, eR, by simp, hk, rfl⟩
        rw [est (.sp 0 5) rfl]
        exact .opn trivial ho' (by simp) (by simp)
    · exact .inr (idle e1 hgo hD (.sgo hr h'))
  | @kd m _ _ h =>
    rcases goes_split2 (RM.refl w) h with hstop | ⟨m', a', w', es, e1, hgo, hD, h'⟩
    · obtain ⟨_, a', hgo, m₂, hk'⟩ := hstop w (RM.refl w)
      obtain ⟨ho, rfl, rfl, _, _⟩ := hmode.inv trivial
      exact .inr (book hgo asA hwg (one _ _ (okM_mute _ _ rfl)) (.w1 (Nat.le_refl 2) hk') (.opn (tag := .w1 2) trivial ho (fun n e => by cases e; exact vc_le 2) (by simp)) (by simp) (.inl (by simp only [phi]; omega)))
    · exact .inr (idle e1 hgo hD (.kd h'))
  | @w1 n m _ _ hn h =>
    rcases goes_split2 (RM.refl w) h with hstop | ⟨m', a', w', es, e1, hgo, hD, h'⟩
    · have hst := hstop w (RM.refl w)
      obtain ⟨ho, rfl, rfl, hw1, _⟩ := hmode.inv trivial
      have hv := hw1 n rfl
      cases n with
      | zero =>
        have hv0 : Vc 2 D = 0 := by omega
        have hwg0 : WgAt 108 Wg w 0 0 := by simpa [pend, hv0] using hwg
        obtain ⟨a', hgo, m₂, hk'⟩ := hst.2 hwg0
        exact .inr (book hgo asA hwg0 okrd (.ke hk') (.fin (tag := .ke) trivial (quit_of ho hv0)) (by simp) (.inl (by simp only [phi]; omega)))
      | succ n =>
        obtain ⟨a', hgo, h0, h1⟩ := hst.2 (Vc 2 D) hv (vc_le 2) (by simpa [pend] using hwg)
        by_cases hv0 : Vc 2 D = 0
        · obtain ⟨m₂, hk'⟩ := h0 hv0
          exact .inr (book hgo asA (by simpa [pend, hv0] using hwg) okrd (.ke hk') (.fin (tag := .ke) trivial (quit_of ho hv0)) (by simp) (.inl (by simp only [phi]; omega)))
        · obtain ⟨m₂, hk'⟩ := h1 hv0
          exact .inr (book hgo asA hwg okrd (.w2 (by omega) hv (by omega) hk') (.opn (tag := .w2 n (Vc 2 D)) trivial ho (by simp) (fun n' vs e => by cases e; exact Nat.le_refl _)) (by simp) (.inl (by simp only [phi]; omega)))
    · exact .inr (idle e1 hgo hD (.w1 hn h'))
  | @w2 n vs m _ _ h1 h2' h3 h =>
    rcases goes_split2 (RM.refl w) h with hstop | ⟨m', a', w', es, e1, hgo, hD, h'⟩
    · obtain ⟨_, hst⟩ := hstop w (RM.refl w)
      obtain ⟨ho, rfl, rfl, _, hw2⟩ := hmode.inv trivial
      have hv := hw2 n vs rfl
      have hwg0 : WgAt 108 Wg w (((Vc 2 D : Nat) : Int) * KK) 0 := by simpa [pend] using hwg
      obtain ⟨hhit, hmiss⟩ := hst (Vc 2 D) (vc_le 2) hwg0
      by_cases e : Vc 2 D = vs
      · obtain ⟨a', hgo, m₂, hk'⟩ := hhit e
        exact .inr (book hgo (Go.Conc.aside_setCell w (stA Wg) _) (hwg0.setSt _) (okrw _) (.w3 hk') (.reg (tag := .w3) trivial ho (by omega)) (by simp) (.inl (by simp only [phi]; omega)))
      · obtain ⟨a', hgo, m₂, hk'⟩ := hmiss e
        exact .inr (book hgo asA hwg okrd (.w1 (by omega) hk') (.opn (tag := .w1 n) trivial ho (fun n' e => by cases e; omega) (by simp)) (by simp) (.inl (by simp only [phi]; omega)))
    · exact .inr (idle e1 hgo hD (.w2 h1 h2' h3 h'))
  | @w3 m _ _ h =>
    rcases goes_split2 (RM.refl w) h with hstop | ⟨m', a', w', es, e1, hgo, hD, h'⟩
    · obtain ⟨_, ho, hblk, hup⟩ := hstop w (RM.refl w)
      have hb : ∀ {st'}, WgAt 108 Wg w st' 0 → Mode 2 D .blk st' 0 → ∃ m₁ ops μ', runT Try.prog (crowd gs w sl) 0 = (.next m₁, ops) ∧ Lt2 μ' (phi .w3 + sumTo 2 (fun i => len (D i)), (m + 1) + 2 * (sumTo 2 (fun i => (D i).fuel) + sumTo K q)) ∧ Inv S Wg nb K Low all Ld T B0 W μ' m₁ (t ++ ops) := fun hw hm =>
        book (hblk ⟨_, hw⟩) asA hw (by simp) (.blk hstop) hm (by simp) (.inr ⟨rfl, by omega⟩)
      cases hmode with
      | opn h1 _ _ _ => exact h1.elim
      | reg h1 h2 h3 => exact .inr (hb hwg (.reg trivial h2 h3))
      | last L h1 h2 h3 h4 => exact .inr (hb hwg (.last L trivial h2 h3 h4))
      | sema hq =>
        obtain ⟨a', hgo, m₂, hk'⟩ := hup hwg
        refine .inr (book hgo (Go.Conc.aside_setCell w (smA Wg) _) (hwg.setSm 0) ?_ (.w4 hk') (.fin (tag := .w4) trivial hq) (by simp) (.inl (by simp only [phi]; omega)))
        intro e he
        rw [(Go.Conc.aside_setCell w (smA Wg) _).size]
        simp only [semEvents, List.mem_toArray, List.mem_cons, List.not_mem_nil, or_false] at he
        rcases he with rfl | rfl | rfl | rfl
        · exact okM_mute _ _ rfl
        · exact okM_cell 2 _ Wg 1 false (.inl rfl) hWs
        · exact okM_cell 2 _ Wg 1 true (.inl rfl) hWs
        · exact okM_mute _ _ rfl
      | fin h1 _ => exact h1.elim
    · exact .inr (idle (m' := m' + 1) (by omega) hgo hD (.w3 h'))
  | blk h => cases hrun
  | @w4 m _ _ h =>
    rcases goes_split2 (RM.refl w) h with hstop | ⟨m', a', w', es, e1, hgo, hD, h'⟩
    · obtain ⟨hq, rfl, rfl⟩ := hmode.inv_fin trivial
      obtain ⟨a', hgo, m₂, hk'⟩ := (hstop w (RM.refl w)).2 hwg
      exact .inr (book hgo asA hwg okrd (.ke hk') (.fin (tag := .ke) trivial hq) (by simp) (.inl (by simp only [phi]; omega)))
    · exact .inr (idle e1 hgo hD (.w4 h'))
  | @ke m _ _ h =>
    rcases goes_split2 (RM.refl w) h with hstop | ⟨m', a', w', es, e1, hgo, hD, h'⟩
    · obtain ⟨hq, rfl, rfl⟩ := hmode.inv_fin trivial
      obtain ⟨_, a', hgo, m₂, hk'⟩ := hstop w (RM.refl w)
      exact .inr (book hgo asA hwg (one _ _ (okM_mute _ _ rfl)) (.acq hk') (.fin (tag := .acq) trivial hq) (by simp) (.inl (by simp only [phi]; omega)))
    · exact .inr (idle e1 hgo hD (.ke h'))
  | @acq m _ _ h =>
    rcases goes_split2 (RM.refl w) h with hstop | ⟨m', a', w', es, e1, hgo, hD, h'⟩
    · obtain ⟨hq, rfl, rfl⟩ := hmode.inv_fin trivial
      obtain ⟨_, a', hgo, m₂, hk'⟩ := hstop w (RM.refl w)
      refine .inr (book hgo asA hwg (one _ _ ⟨fun y hy => by simp [mk, MemAct.ofEvent, MemAct.touch?] at hy, by simp [mk, MemAct.ofEvent], hWs⟩) (.ld hk') (.fin (tag := .ld) trivial hq) (fun _ => ?_) (.inl (by simp only [phi]; omega)))
      have e1 : MemOp.ofEvents 0 a.frame.fn a.frame.place #[mk (.acquire (stA Wg))] = #[{ g := 0, fn := a.frame.fn, pos := a.frame.place, act := .mark (.acquire (stA Wg)) }] := by rw [ofEvents_eq]; simp [mk, MemAct.ofEvent]
      have hy : (t ++ #[({ g := 0, fn := a.frame.fn, pos := a.frame.place, act := .mark (.acquire (stA Wg)) } : MemOp)])[t.size]? = some { g := 0, fn := a.frame.fn, pos := a.frame.place, act := .mark (.acquire (stA Wg)) } := by simp
      refine ⟨t.size, by rw [e1, act?_of hy], by rw [e1]; simp [Trace.g?], ⟨0, by rw [e1]; simp [Trace.g?], by rw [deaf_old (Nat.le_refl _)]; exact hc.deaf0⟩, fun i hi => ?_⟩
      obtain ⟨r, hr⟩ := hc.rel i hi (by rw [hq i hi]; omega)
      exact ⟨r, hr.appOther ofEvents_g (by omega), lt_of_act? hr.act⟩
    · exact .inr (idle e1 hgo hD (.acq h'))
  | @ld m _ _ h =>
    rcases goes_split2 (RM.refl w) h with hstop | ⟨m', a', w', es, e1, hgo, hD, h'⟩
    · exact .inl ⟨rfl, hstop w (RM.refl w)⟩
    · exact .inr (idle e1 hgo hD (.ld h'))

/-- What is come to: goroutine 0 stands at its stop behind Wait; all others only leave; the counter holds the sum. -/
def Met (S : Nat → Prop) (Wg nb : Nat) (Ld : Goroutine → World → Prop) (T : Int) (B0 : Nat) (W : World) (m : Machine) (t : Trace) : Prop :=
  ∃ (gs : Array Goroutine) (w : World) (sl : Option (Nat × Nat)) (a : Goroutine) (q : Nat → Nat), m = crowd gs w sl ∧ gs[0]? = some a ∧ Ld a w ∧ Leavers Try.prog t gs q ∧ Past (ShB fun b => S b ∨ b = Wg ∨ b = nb) w.heap.size t ∧ CntAt nb w T ∧ Kp B0 W w

theorem crew_step (G : Geo S Wg nb K Low B0) (hL : ∀ g w, Ld g w → g.status = .running) (hLs : ∀ g w d, Ld g w → Ld g (w.at d)) (μ : Nat × Nat) (m : Machine) (t : Trace) (h : Inv S Wg nb K Low all Ld T B0 W μ m t) :
    (∃ N m' t', runNT Try.prog N m t = (.next m', t') ∧ Met S Wg nb Ld T B0 W m' t') ∨ ∃ m' ops μ', stepT Try.prog m = (.next m', ops) ∧ Lt2 μ' μ ∧ Inv S Wg nb K Low all Ld T B0 W μ' m' (t ++ ops) := by
  obtain ⟨gs, w, sl, j, D, tag, f0, d0, a, st, sm, q, rfl, ha, hcs, hc, hwg, hmode, hcnt, hacq, hk, rfl⟩ := h
  have hK := G.hK
  have hsz := hc.size
  have haw : ∀ g ∈ gs, awake g := by
    intro g hg tm
    obtain ⟨i, hi⟩ := Array.mem_iff_getElem?.1 hg
    rcases Nat.eq_zero_or_pos i with rfl | hpos
    · rw [ha] at hi; cases hi
      rcases hcs.status hL with ⟨hs, _⟩ | ⟨hs, _⟩ <;> rw [hs] <;> simp
    · rcases Nat.lt_or_ge i K with hlt | hge
      · rcases (hc.old i g hpos hlt hi).status with h | h <;> rw [h] <;> simp
      · have hlt : i < K + j := by have := (Array.getElem?_eq_some_iff.1 hi).1; omega
        obtain ⟨g', hg', hs⟩ := hc.wk (i - K) (by omega)
        rw [show K + (i - K) = i by omega, hi] at hg'; cases hg'
        rcases hs.status with h | h <;> rw [h] <;> simp
  have some1 : ∃ (i : Nat) (g : Goroutine), gs[i]? = some g ∧ g.status = .running := by
    rcases hcs.status hL with ⟨hs, _⟩ | ⟨_, rfl⟩
    · exact ⟨0, a, ha, hs⟩
    · have hw : ∀ i, i < j → (D i).stage ≠ 1 → ∃ (i : Nat) (g : Goroutine), gs[i]? = some g ∧ g.status = .running := fun i hi h1 => by
        obtain ⟨g, hg, hs⟩ := hc.wk i hi
        exact ⟨K + i, g, hg, hs.running h1⟩
      cases hmode with
      | opn h1 _ _ _ => exact h1.elim
      | reg _ h2 h3 =>
        by_cases hq : AllQuit j D
        · exfalso
          have := vc_quit j hq
          omega
        · obtain ⟨i, hi, h1⟩ : ∃ i, i < j ∧ (D i).stage ≠ 1 := Classical.byContradiction fun hn => hq fun i hi => Classical.byContradiction fun h1 => hn ⟨i, hi, h1⟩
          exact hw i hi h1
      | last L _ h2 h3 _ => exact hw L h2 (by omega)
      | fin h1 _ => exact h1.elim
  -- is it come to?
  by_cases hld : tag = .ld ∧ Ld a w
  · obtain ⟨rfl, hl⟩ := hld
    obtain ⟨hq, _, _⟩ := hmode.inv_fin trivial
    obtain ⟨rfl, rfl⟩ : j = 2 ∧ d0 = 0 := by cases hcs; exact ⟨rfl, rfl⟩
    have hws : ∀ i, i < 2 → ∃ g, gs[K + i]? = some g ∧ QuitsD Try.prog (D i).fuel (D i).deaf g ∧ (D i).rest = [] := fun i hi => by
      obtain ⟨g, hg, hs⟩ := hc.wk i hi
      have h1 := hq i hi
      generalize D i = di at hs h1 ⊢
      obtain ⟨rest, stage, fuel, deaf⟩ := di
      simp only at hs h1 ⊢
      subst h1
      cases hs with
      | quit h => exact ⟨g, hg, h, rfl⟩
    refine .inl ⟨0, _, t, rfl, gs, w, sl, a, fun p => if p < K then q p else (D (p - K)).fuel, rfl, ha, hl, ⟨fun p g hp hg => ?_, fun p hp => hc.above p (by omega)⟩, hc.mid.end_ (hacq rfl) hc.deaf0 hK, ?_, hk⟩
    · show QuitsD Try.prog (if p < K then q p else (D (p - K)).fuel) (Deaf t p) g
      split
      · exact hc.old p g hp ‹_› hg
      · have hlt : p < K + 2 := by have := (Array.getElem?_eq_some_iff.1 hg).1; omega
        obtain ⟨g', hg', hq', _⟩ := hws (p - K) (by omega)
        have hdf := hc.deafW (p - K) (by omega)
        rw [show K + (p - K) = p by omega] at hg' hdf
        rw [hg] at hg'; cases hg'
        rw [hdf]
        exact hq'
    · obtain ⟨c, h1, h2, h3, h4⟩ := hcnt
      have r0 := (hws 0 (by omega)).choose_spec.2.2
      have r1 := (hws 1 (by omega)).choose_spec.2.2
      simp only [rsum, r0, r1, List.sum_nil] at h4
      have : c = T := by omega
      rw [← this]
      exact h1
  obtain ⟨i, g, d, sl', hg, hrun, hstep⟩ := crowd_pick (P := Try.prog) (w := w) (sl := sl) haw some1
  rw [hstep]
  have hcs' := hcs.rely (RM.at w d)
  have hc' := hc.at d
  have hwg' : WgAt 108 Wg (w.at d) st sm := hwg
  have hcnt' : CntOk nb T D (w.at d) := hcnt
  have hk' : Kp B0 W (w.at d) := ⟨hk.tape, hk.os, hk.output, hk.size, hk.block⟩
  rcases Nat.eq_zero_or_pos i with rfl | hpos
  · rw [ha] at hg; cases hg
    rcases stepCaller (sl := sl') G hL ha hcs' hc' hk' hwg' hmode hcnt' hacq hrun with ⟨h1, h2⟩ | ⟨m₁, ops, μ', h1, h2, h3⟩
    · exact absurd ⟨h1, hLs a (w.at d) w.drawn h2⟩ hld
    · exact .inr ⟨m₁, ops, μ', h1, h2, h3⟩
  · rcases Nat.lt_or_ge i K with hlt | hge
    · obtain ⟨m₁, ops, μ', h1, h2, h3⟩ := leaverStep (sl := sl') G hL ha hcs' hc' hk' hwg' hmode hcnt' hacq hpos hlt hg hrun
      exact .inr ⟨m₁, ops, μ', h1, h2, h3⟩
    · have hlt : i < K + j := by have := (Array.getElem?_eq_some_iff.1 hg).1; omega
      obtain ⟨i', rfl⟩ : ∃ i', i = K + i' := ⟨i - K, by omega⟩
      obtain ⟨m₁, ops, μ', h1, h2, h3⟩ := stepWorker (sl := sl') G hL ha hcs' hc' hk' hwg' hmode hcnt' hacq (by omega) hg hrun
      exact .inr ⟨m₁, ops, μ', h1, h2, h3⟩

/-- ████ TO THE STOP BEHIND Wait. ████ -/
theorem crew_runs (G : Geo S Wg nb K Low B0) (hL : ∀ g w, Ld g w → g.status = .running) (hLs : ∀ g w d, Ld g w → Ld g (w.at d)) : ∀ (μ : Nat × Nat) (m : Machine) (t : Trace), Inv S Wg nb K Low all Ld T B0 W μ m t →
    ∃ N m' t', runNT Try.prog N m t = (.next m', t') ∧ Met S Wg nb Ld T B0 W m' t' := by
  intro μ
  induction μ using (Prod.lex Nat.lt_wfRel Nat.lt_wfRel).wf.induction with
  | _ μ ih =>
    intro m t h
    rcases crew_step G hL hLs μ m t h with h | ⟨m', ops, μ', h1, h2, h3⟩
    · exact h
    · obtain ⟨N, m₂, t₂, h4, h5⟩ := ih μ' h2 m' (t ++ ops) h3
      exact ⟨N + 1, m₂, t₂, by rw [runNT_succ_next h1]; exact h4, h5⟩
end
end Go.Proofs.Ytnikfjfcbpeieaa.Lk
end
