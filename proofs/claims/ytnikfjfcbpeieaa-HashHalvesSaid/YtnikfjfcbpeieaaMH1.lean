/- Walks over what is known of the temporaries: 'GE': whatever the other temporaries hold. -/
/- A sync.Mutex between two goroutines, each of which locks and unlocks as often as it likes: its states, and that every step keeps to them and comes nearer to the end. -/
/- The trace while two workers, who make blocks of their own and turn one more block under a lock, run beside goroutine 0 and goroutines that only leave. -/
/- What is asked of a worker that makes a block, locks, counts, unlocks, again and again: stop by stop, by the automaton. -/
/- The stops of a worker at the lock, one law each: what is to be shown behind it. -/
import Derived.Test.YtnikfjfcbpeieaaMXa
import Derived.Conc.WgGenN3
import Derived.Conc.LockTrace
import Derived.Conc.ClockLaws
import Derived.Conc.AtomicLaws2
section
namespace Go.Proofs.Ytnikfjfcbpeieaa.Hk
open Go Go.Conc Go.Proofs.Ytnikfjfcbpeieaa.Lk
set_option linter.unusedVariables false
set_option linter.unusedSimpArgs false
abbrev Rho := List (Nat × Value)
def Rho.get : Rho → Nat → Option Value
 | [], _ => none
 | (j, v) :: r, i => if i = j then some v else Rho.get r i
def ev (ρ : Rho) : Operand → Option Value
 | .tmp i => ρ.get i
 | .const v => some v
 | .global g => some (.pointer (some ⟨g, 0, none⟩))
 | .func f => some (.func (.func f) #[] #[])
def Rho.put (ρ : Rho) (d : Option Tmp) (v : Value) : Rho := match d with | some d => (d, v) :: ρ | none => ρ
def Looks (ρ : Rho) (T : Array Value) : Prop := ∀ i v, ρ.get i = some v → T[i]? = some v
theorem Looks.put {ρ : Rho} {T : Array Value} (h : Looks ρ T) {d : Option Tmp} {v : Value} (hd : d.all (· < T.size) = true) {ds : List Deferred} : Looks (ρ.put d v) (Act.put ⟨T, ds⟩ d v).tmps := by
 cases d with
 | none => exact h
 | some d =>
  have hd' : d < T.size := by simpa using hd
  intro i u e
  simp only [Rho.put, Rho.get] at e
  show (T.setIfInBounds d v)[i]? = some u
  split at e
  ·rename_i hi
   rw [hi, Array.getElem?_setIfInBounds_self_of_lt hd']; exact e
  ·rename_i hi
   rw [Array.getElem?_setIfInBounds_ne (Ne.symm hi)]; exact h i u e
theorem Looks.ev {ρ : Rho} {T : Array Value} (h : Looks ρ T) {ds : List Deferred} {x : Operand} {v : Value} (e : ev ρ x = some v) : (Act.mk T ds).eval x = v := by
 cases x with
 | tmp i =>
  have := h i v e
  simp [Act.eval, this]
 | const v => exact Option.some.inj e
 | global g => exact Option.some.inj e
 | func f => exact Option.some.inj e
theorem put_act (T : Array Value) (ds : List Deferred) (d : Option Tmp) (v : Value) : Act.put ⟨T, ds⟩ d v = ⟨(Act.put ⟨T, ds⟩ d v).tmps, ds⟩ := by cases d <;> rfl
theorem put_size (T : Array Value) (ds : List Deferred) (d : Option Tmp) (v : Value) : (Act.put ⟨T, ds⟩ d v).tmps.size = T.size := by cases d <;> simp [Act.put]
def wantB (ops : Array Oper) (ρ : Rho) (o : Oper) : Option Bool :=
 match o.guard with
 | none => some true
 | some (j, want) => match (ops[j]?).bind (·.dst) with
  | some d => match ρ.get d with
   | some (.bool b) => some (b == want)
   | _ => none
  | none => none
theorem Looks.want {ρ : Rho} {T : Array Value} (h : Looks ρ T) {ops : Array Oper} {o : Oper} {x : Bool} (e : wantB ops ρ o = some x) : Region.wanted o (yielded ops T) = x := by
 unfold wantB at e
 unfold Region.wanted
 split at e
 ·rename_i hg; rw [hg]; exact Option.some.inj e
 ·rename_i j want hg
  rw [hg]
  simp only
  split at e
  ·rename_i d hd
   split at e
   ·rename_i b hb
    have := h d _ hb
    rw [← Option.some.inj e]
    simp only [yielded, hd, Option.bind_some, this]
    cases b <;> cases want <;> rfl
   ·cases e
  ·cases e
section
variable {P : Program} {main : Bool} {R : World → World → Prop} {D : World → World → Array Event → Prop} {Stop : Goroutine → World → Prop} {F : World → Prop} {b : Frame} {cs : List Frame} {N : Nat} {ds : List Deferred} {ρ : Rho} {k : List Item}
def GE (P : Program) (main : Bool) (R : World → World → Prop) (D : World → World → Array Event → Prop) (Stop : Goroutine → World → Prop) (F : World → Prop) (b : Frame) (cs : List Frame) (N : Nat) (ds : List Deferred) (ρ : Rho) (k : List Item) : Prop :=
 ∀ T : Array Value, T.size = N → Looks ρ T → Gs P main R D Stop F (G (b.at ⟨T, ds⟩ k) cs)
theorem GE.gs {T : Array Value} (h : GE P main R D Stop F b cs N ds ρ k) (hT : T.size = N) (hl : Looks ρ T) : Gs P main R D Stop F (G (b.at ⟨T, ds⟩ k) cs) := h T hT hl
theorem GE.skip (U : Rule R D F) (h : GE P main R D Stop F b cs N ds ρ k) : GE P main R D Stop F b cs N ds ρ (.code .skip :: k) := fun T hT hl => Gs.skip U (h T hT hl)
theorem GE.inBlock {id : Nat} (U : Rule R D F) (h : GE P main R D Stop F b cs N ds ρ k) : GE P main R D Stop F b cs N ds ρ (.inBlock id :: k) := fun T hT hl => Gs.inBlock U (h T hT hl)
theorem GE.seq {x y : Code} (U : Rule R D F) (h : GE P main R D Stop F b cs N ds ρ (.code x :: .code y :: k)) : GE P main R D Stop F b cs N ds ρ (.code (.seq x y) :: k) := fun T hT hl => Gs.seq U (h T hT hl)
theorem GE.cond {c : Operand} {x y : Code} (t : Bool) (U : Rule R D F) (e : ev ρ c = some (.bool t)) (h : GE P main R D Stop F b cs N ds ρ (.code (if t then x else y) :: k)) : GE P main R D Stop F b cs N ds ρ (.code (.cond c x y) :: k) := fun T hT hl => Gs.cond t U (hl.ev e) (h T hT hl)
theorem GE.block {id : Nat} {c : Code} (U : Rule R D F) (h : GE P main R D Stop F b cs N ds ρ (.code c :: .inBlock id :: k)) : GE P main R D Stop F b cs N ds ρ (.code (.block id c) :: k) := fun T hT hl => Gs.block U (h T hT hl)
theorem GE.loop {c : Code} (U : Rule R D F) (h : GE P main R D Stop F b cs N ds ρ (.code c :: .inLoop c :: k)) : GE P main R D Stop F b cs N ds ρ (.code (.loop c) :: k) := fun T hT hl => Gs.loop U (h T hT hl)
theorem GE.inLoop {c : Code} (U : Rule R D F) (h : GE P main R D Stop F b cs N ds ρ (.code c :: .inLoop c :: k)) : GE P main R D Stop F b cs N ds ρ (.inLoop c :: k) := fun T hT hl => Gs.inLoop U (h T hT hl)
theorem GE.exit {id : Nat} {k' : List Item} (U : Rule R D F) (e : exitTo id k = some k') (h : GE P main R D Stop F b cs N ds ρ k') : GE P main R D Stop F b cs N ds ρ (.code (.exit id) :: k) := fun T hT hl => Gs.exit U e (h T hT hl)
theorem GE.region {id : Nat} {ops : Array Oper} (l : List Nat) (U : Rule R D F) (e : List.range ops.size = l) (h : GE P main R D Stop F b cs N ds ρ (.inRegion ops l :: k)) : GE P main R D Stop F b cs N ds ρ (.code (.region id ops false) :: k) := fun T hT hl => Gs.region U (by rw [e]; exact h T hT hl)
theorem GE.regionEnd {ops : Array Oper} (U : Rule R D F) (h : GE P main R D Stop F b cs N ds ρ k) : GE P main R D Stop F b cs N ds ρ (.inRegion ops [] :: k) := fun T hT hl => Gs.regionEnd U (h T hT hl)
variable {ops : Array Oper} {i : Nat} {rest : List Nat} {o : Oper}
theorem GE.put {T : Array Value} {d : Option Tmp} {v : Value} (hd : d.all (· < N) = true) (hT : T.size = N) (hl : Looks ρ T) (h : GE P main R D Stop F b cs N ds (ρ.put d v) k) : Gs P main R D Stop F (G (b.at (Act.put ⟨T, ds⟩ d v) k) cs) := by
 rw [put_act]
 exact h _ (by rw [put_size, hT]) (hl.put (by rw [hT]; exact hd))
theorem GE.unwanted (U : Rule R D F) (ho : ops[i]? = some o) (hw : wantB ops ρ o = some false) (hd : o.dst.all (· < N) = true) (h : GE P main R D Stop F b cs N ds (ρ.put o.dst undef) (.inRegion ops rest :: k)) : GE P main R D Stop F b cs N ds ρ (.inRegion ops (i :: rest) :: k) :=
 fun T hT hl => Gs.unwanted U ho (hl.want hw) (GE.put hd hT hl h)
theorem GE.val {v : Value} (U : Rule R D F) (ho : ops[i]? = some o) (hw : wantB ops ρ o = some true) (hk : b.kind ≠ .early) (hd : o.dst.all (· < N) = true)
  (hr : ∀ e : Operand → Value, (∀ x u, ev ρ x = some u → e x = u) → ∀ w, F w → (execOp e o).run P w = .ok (.value v) w ∧ (execOp e o).events P w #[] = #[])
  (h : GE P main R D Stop F b cs N ds (ρ.put o.dst v) (.inRegion ops rest :: k)) : GE P main R D Stop F b cs N ds ρ (.inRegion ops (i :: rest) :: k) :=
 fun T hT hl => Gs.val U ho (hl.want hw) hk (fun w hF => (hr _ (fun x u e => hl.ev e) w hF).1) (fun w hF => (hr _ (fun x u e => hl.ev e) w hF).2) (GE.put hd hT hl h)
theorem GE.mv {x : Operand} {v : Value} (U : Rule R D F) (ho : ops[i]? = some o) (hop : o.op = .move x) (hw : wantB ops ρ o = some true) (hk : b.kind ≠ .early) (hd : o.dst.all (· < N) = true) (hx : ev ρ x = some v)
  (h : GE P main R D Stop F b cs N ds (ρ.put o.dst v) (.inRegion ops rest :: k)) : GE P main R D Stop F b cs N ds ρ (.inRegion ops (i :: rest) :: k) :=
 GE.val U ho hw hk hd (fun e he w _ => by rw [show execOp e o = pure (.value v) by simp [execOp, hop, he x v hx]]; exact ⟨rfl, rfl⟩) h
theorem GE.as {x : Operand} {v : Value} (U : Rule R D F) (ho : ops[i]? = some o) (hop : o.op = .assign x) (hw : wantB ops ρ o = some true) (hk : b.kind ≠ .early) (hd : o.dst.all (· < N) = true) (hx : ev ρ x = some v)
  (h : GE P main R D Stop F b cs N ds (ρ.put o.dst v) (.inRegion ops rest :: k)) : GE P main R D Stop F b cs N ds ρ (.inRegion ops (i :: rest) :: k) :=
 GE.val U ho hw hk hd (fun e he w _ => by rw [show execOp e o = pure (.value v) by simp [execOp, hop, he x v hx]]; exact ⟨rfl, rfl⟩) h
theorem GE.pick {c x y : Operand} {t : Bool} {v : Value} (U : Rule R D F) (ho : ops[i]? = some o) (hop : o.op = .pick c x y) (hw : wantB ops ρ o = some true) (hk : b.kind ≠ .early) (hd : o.dst.all (· < N) = true) (hc : ev ρ c = some (.bool t)) (hx : ev ρ (if t then x else y) = some v)
  (h : GE P main R D Stop F b cs N ds (ρ.put o.dst v) (.inRegion ops rest :: k)) : GE P main R D Stop F b cs N ds ρ (.inRegion ops (i :: rest) :: k) :=
 GE.val U ho hw hk hd (fun e he w _ => by
  have hv : (if t then e x else e y) = v := by
   cases t
   ·exact he y v hx
   ·exact he x v hx
  rw [show execOp e o = pure (.value v) by simp only [execOp, hop, he c _ hc, asBool]; simp only [pure_bind]; rw [hv]]; exact ⟨rfl, rfl⟩) h
theorem GE.not {x : Operand} {ty : TypeId} {t : Bool} (U : Rule R D F) (ho : ops[i]? = some o) (hop : o.op = .unOp .not ty x) (hw : wantB ops ρ o = some true) (hk : b.kind ≠ .early) (hd : o.dst.all (· < N) = true) (hx : ev ρ x = some (.bool t))
  (h : GE P main R D Stop F b cs N ds (ρ.put o.dst (.bool (!t))) (.inRegion ops rest :: k)) : GE P main R D Stop F b cs N ds ρ (.inRegion ops (i :: rest) :: k) :=
 GE.val U ho hw hk hd (fun e he w _ => by rw [show execOp e o = pure (.value (.bool (!t))) by simp only [execOp, hop, he x _ hx]; rfl]; exact ⟨rfl, rfl⟩) h
theorem GE.nil {x : Operand} {ad : Addr} (U : Rule R D F) (ho : ops[i]? = some o) (hop : o.op = .nilCheck x) (hw : wantB ops ρ o = some true) (hk : b.kind ≠ .early) (hd : o.dst.all (· < N) = true) (hx : ev ρ x = some (.pointer (some ad)))
  (h : GE P main R D Stop F b cs N ds (ρ.put o.dst (.pointer (some ad))) (.inRegion ops rest :: k)) : GE P main R D Stop F b cs N ds ρ (.inRegion ops (i :: rest) :: k) :=
 GE.val U ho hw hk hd (fun e he w _ => by rw [show execOp e o = pure (.value (.pointer (some ad))) by simp only [execOp, hop, he x _ hx]]; exact ⟨rfl, rfl⟩) h
theorem GE.ask {s : Sem Value} {v : Value} (U : Rule R D F) (ho : ops[i]? = some o) (hw : wantB ops ρ o = some true) (hk : b.kind ≠ .early) (hd : o.dst.all (· < N) = true)
  (hs : ∀ e : Operand → Value, (∀ x u, ev ρ x = some u → e x = u) → execOp e o = (do pure (.value (← s)))) (hr : ∀ w, F w → s.run P w = .ok v w) (he : ∀ w, F w → s.events P w #[] = #[])
  (h : GE P main R D Stop F b cs N ds (ρ.put o.dst v) (.inRegion ops rest :: k)) : GE P main R D Stop F b cs N ds ρ (.inRegion ops (i :: rest) :: k) :=
 GE.val U ho hw hk hd (fun e h' w hF => by
  rw [hs e h']
  have h1 := hr w hF
  have h2 := he w hF
  constructor
  ·simp [h1, Result.andThen]
  ·simp [h1, h2, Result.evThen]) h
theorem GE.bin {op : BinOp} {x y : Operand} {tx ty : TypeId} {kx ky : IntKind} {a c : Int} {v : Value} (U : Rule R D F) (ho : ops[i]? = some o) (hop : o.op = .binOp op tx x y ty) (hw : wantB ops ρ o = some true) (hk : b.kind ≠ .early) (hd : o.dst.all (· < N) = true)
  (hx : ev ρ x = some (.int kx a)) (hy : ev ρ y = some (.int ky c)) (hr : binOp op tx (.int kx a) (.int ky c) = pure v)
  (h : GE P main R D Stop F b cs N ds (ρ.put o.dst v) (.inRegion ops rest :: k)) : GE P main R D Stop F b cs N ds ρ (.inRegion ops (i :: rest) :: k) :=
 GE.ask (s := pure v) U ho hw hk hd (fun e he => by
  have hq : eqGuard op tx x y (.int kx a) (.int ky c) = pure () := by cases op <;> rfl
  simp only [execOp, hop, he x _ hx, he y _ hy, hq, hr, pure_bind]) (fun _ _ => rfl) (fun _ _ => rfl) h
theorem GE.fa {x : Operand} {s : TypeId} {f : Nat} {u v : Value} (U : Rule R D F) (ho : ops[i]? = some o) (hop : o.op = .fieldAddr s x f) (hw : wantB ops ρ o = some true) (hk : b.kind ≠ .early) (hd : o.dst.all (· < N) = true) (hx : ev ρ x = some u)
  (hr : ∀ w, F w → (Instr.fieldAt s u f).run P w = .ok v w) (he : ∀ w, F w → (Instr.fieldAt s u f).events P w #[] = #[])
  (h : GE P main R D Stop F b cs N ds (ρ.put o.dst v) (.inRegion ops rest :: k)) : GE P main R D Stop F b cs N ds ρ (.inRegion ops (i :: rest) :: k) :=
 GE.ask U ho hw hk hd (fun e he => by simp only [execOp, hop, he x _ hx]) hr he h
theorem GE.cv {x : Operand} {s t : TypeId} {u v : Value} (U : Rule R D F) (ho : ops[i]? = some o) (hop : o.op = .convert s t x) (hw : wantB ops ρ o = some true) (hk : b.kind ≠ .early) (hd : o.dst.all (· < N) = true) (hx : ev ρ x = some u)
  (hr : ∀ w, F w → (convert s t u).run P w = .ok v w) (he : ∀ w, F w → (convert s t u).events P w #[] = #[])
  (h : GE P main R D Stop F b cs N ds (ρ.put o.dst v) (.inRegion ops rest :: k)) : GE P main R D Stop F b cs N ds ρ (.inRegion ops (i :: rest) :: k) :=
 GE.ask U ho hw hk hd (fun e he => by simp only [execOp, hop, he x _ hx]) hr he h
theorem GE.ia {x y : Operand} {t : TypeId} {u u' v : Value} (U : Rule R D F) (ho : ops[i]? = some o) (hop : o.op = .indexAddr t x y) (hw : wantB ops ρ o = some true) (hk : b.kind ≠ .early) (hd : o.dst.all (· < N) = true) (hx : ev ρ x = some u) (hy : ev ρ y = some u')
  (hr : ∀ w, F w → (Instr.indexAt t u u').run P w = .ok v w) (he : ∀ w, F w → (Instr.indexAt t u u').events P w #[] = #[])
  (h : GE P main R D Stop F b cs N ds (ρ.put o.dst v) (.inRegion ops rest :: k)) : GE P main R D Stop F b cs N ds ρ (.inRegion ops (i :: rest) :: k) :=
 GE.ask U ho hw hk hd (fun e he => by simp only [execOp, hop, he x _ hx, he y _ hy]) hr he h
theorem GE.ix {x y : Operand} {t : TypeId} {u u' v : Value} (U : Rule R D F) (ho : ops[i]? = some o) (hop : o.op = .index t x y) (hw : wantB ops ρ o = some true) (hk : b.kind ≠ .early) (hd : o.dst.all (· < N) = true) (hx : ev ρ x = some u) (hy : ev ρ y = some u')
  (hr : ∀ w, F w → (Instr.index t u u').run P w = .ok v w) (he : ∀ w, F w → (Instr.index t u u').events P w #[] = #[])
  (h : GE P main R D Stop F b cs N ds (ρ.put o.dst v) (.inRegion ops rest :: k)) : GE P main R D Stop F b cs N ds ρ (.inRegion ops (i :: rest) :: k) :=
 GE.ask U ho hw hk hd (fun e he => by simp only [execOp, hop, he x _ hx, he y _ hy]) hr he h
theorem GE.ex {x : Operand} {f : Nat} {u v : Value} (U : Rule R D F) (ho : ops[i]? = some o) (hop : o.op = .extract x f) (hw : wantB ops ρ o = some true) (hk : b.kind ≠ .early) (hd : o.dst.all (· < N) = true) (hx : ev ρ x = some u)
  (hr : ∀ w, F w → (Instr.extract u f).run P w = .ok v w) (he : ∀ w, F w → (Instr.extract u f).events P w #[] = #[])
  (h : GE P main R D Stop F b cs N ds (ρ.put o.dst v) (.inRegion ops rest :: k)) : GE P main R D Stop F b cs N ds ρ (.inRegion ops (i :: rest) :: k) :=
 GE.ask U ho hw hk hd (fun e he => by simp only [execOp, hop, he x _ hx]) hr he h
theorem GE.by {d : Option Tmp} {v : Value} (U : Rule R D F) (hd : d.all (· < N) = true) (hs : ∀ T : Array Value, T.size = N → Looks ρ T → ∀ w, F w → stepG P main (G (b.at ⟨T, ds⟩ (.inRegion ops (i :: rest) :: k)) cs) w = .go (G (b.at (Act.put ⟨T, ds⟩ d v) (.inRegion ops rest :: k)) cs) w #[])
  (h : GE P main R D Stop F b cs N ds (ρ.put d v) (.inRegion ops rest :: k)) : GE P main R D Stop F b cs N ds ρ (.inRegion ops (i :: rest) :: k) :=
 fun T hT hl => Gs.go U rfl (hs T hT hl) (GE.put hd hT hl h)
end
def Sub (ρ : Rho) : Rho → Prop
 | [] => True
 | (i, v) :: r => ρ.get i = some v ∧ Sub ρ r
theorem Looks.sub {ρ : Rho} {T : Array Value} (h : Looks ρ T) : ∀ {ρ' : Rho}, Sub ρ ρ' → Looks ρ' T
 | [], _, i, v, e => by simp [Rho.get] at e
 | (j, u) :: r, s, i, v, e => by
  unfold Rho.get at e
  split at e
  ·rename_i hij
   rw [← Option.some.inj e, hij]; exact h j u s.1
  ·exact h.sub s.2 i v e
theorem looks1 (v0 : Value) (m : Nat) : Looks [(0, v0)] (#[v0] ++ Array.replicate m undef) := by
 intro i v e
 simp only [Rho.get] at e
 split at e
 ·rename_i h; subst h; rw [Array.getElem?_append_left (by simp)]; simpa using e
 ·cases e
theorem looks2 (v0 v1 : Value) (m : Nat) : Looks [(0, v0), (1, v1)] (#[v0, v1] ++ Array.replicate m undef) := by
 intro i v e
 simp only [Rho.get] at e
 split at e
 ·rename_i h; subst h; rw [Array.getElem?_append_left (by simp)]; simpa using e
 ·split at e
  ·rename_i h; subst h; rw [Array.getElem?_append_left (by simp)]; simpa using e
  ·cases e
theorem looks4 (v0 v1 v2 v3 : Value) (m : Nat) : Looks [(0, v0), (1, v1), (2, v2), (3, v3)] (#[v0, v1, v2, v3] ++ Array.replicate m undef) := by
 intro i v e
 simp only [Rho.get] at e
 split at e
 ·rename_i h; subst h; rw [Array.getElem?_append_left (by simp)]; simpa using e
 ·split at e
  ·rename_i h; subst h; rw [Array.getElem?_append_left (by simp)]; simpa using e
  ·split at e
   ·rename_i h; subst h; rw [Array.getElem?_append_left (by simp)]; simpa using e
   ·split at e
    ·rename_i h; subst h; rw [Array.getElem?_append_left (by simp)]; simpa using e
    ·cases e
section
variable {P : Program} {main : Bool} {R : World → World → Prop} {D : World → World → Array Event → Prop} {Stop : Goroutine → World → Prop} {F : World → Prop} {b : Frame} {cs : List Frame} {N : Nat} {ds : List Deferred} {ρ : Rho} {k : List Item}
theorem GE.to (ρ' : Rho) (hs : Sub ρ ρ') (h : GE P main R D Stop F b cs N ds ρ' k) : GE P main R D Stop F b cs N ds ρ k := fun T hT hl => h T hT (hl.sub hs)
variable {ops : Array Oper} {i : Nat} {rest : List Nat} {o : Oper}
theorem GE.call {f : FuncId} {fn : Func} {c : Code} {args : Array Operand} {ats : Array TypeId} (vs : Array Value) (U : Rule R D F) (ho : ops[i]? = some o) (hop : o.op = .call { callee := .value (.func f), args, argTypes := ats }) (hw : wantB ops ρ o = some true) (hk : b.kind ≠ .early)
  (hf : P.funcs[f]? = some fn) (hname : (fn.name == "runtime.NumGoroutine") = false) (hb : fn.body = some c) (hv : ∀ e : Operand → Value, (∀ x u, ev ρ x = some u → e x = u) → args.map e = vs)
  (h : ∀ T : Array Value, T.size = N → Looks ρ T → Gs P main R D Stop F (G ((base f).at { tmps := vs ++ Array.replicate (fn.ntmps - vs.size) undef, defers := [] } [.code c]) (b.at ⟨T, ds⟩ (.inRegion ops (i :: rest) :: k) :: cs))) : GE P main R D Stop F b cs N ds ρ (.inRegion ops (i :: rest) :: k) :=
 fun T hT hl => Gs.call U ho (hl.want hw) hk hop hf hname hb (by rw [hv _ fun x u e => hl.ev e]; exact h T hT hl)
theorem GE.end0 {fn : Func} {b₀ : Frame} {a₀ : Act} {ops₀ : Array Oper} {i₀ : Nat} {rest₀ : List Nat} {k₀ : List Item} {cs₀ : List Frame} (U : Rule R D F) (hn : b.kind = .normal) (hf : P.funcs[b.fn]? = some fn) (hr : fn.results = #[])
  (h : Gs P main R D Stop F (G (b₀.at (a₀.put ((ops₀[i₀]?).bind (·.dst)) (.tuple #[])) (.inRegion ops₀ rest₀ :: k₀)) cs₀)) : GE P main R D Stop F b (b₀.at a₀ (.inRegion ops₀ (i₀ :: rest₀) :: k₀) :: cs₀) N [] ρ [] :=
 fun T hT hl => Gs.end_ U (Gs.leave0 U hn rfl hf hr h)
theorem GE.ret0 {fn : Func} {b₀ : Frame} {a₀ : Act} {ops₀ : Array Oper} {i₀ : Nat} {rest₀ : List Nat} {k₀ : List Item} {cs₀ : List Frame} (U : Rule R D F) (hn : b.kind = .normal) (hf : P.funcs[b.fn]? = some fn) (hr : fn.results = #[])
  (h : Gs P main R D Stop F (G (b₀.at (a₀.put ((ops₀[i₀]?).bind (·.dst)) (.tuple #[])) (.inRegion ops₀ rest₀ :: k₀)) cs₀)) : GE P main R D Stop F b (b₀.at a₀ (.inRegion ops₀ (i₀ :: rest₀) :: k₀) :: cs₀) N [] ρ (.code .ret :: k) :=
 fun T hT hl => Gs.ret U (Gs.leave0 U hn rfl hf hr h)
theorem GE.pure {f : FuncId} {fn : Func} {aas : Array Operand} {ats : Array TypeId} {v : Value} (U : Rule R D F) (ho : ops[i]? = some o) (hop : o.op = .call { callee := .value (.func f), args := aas, argTypes := ats }) (hw : wantB ops ρ o = some true) (hk : b.kind ≠ .early) (hd : o.dst.all (· < N) = true)
  (hf : P.funcs[f]? = some fn) (hname : (fn.name == "runtime.NumGoroutine") = false) (hb : fn.body.isNone = true) (hn : Extern.findNext fn = none) (he : Extern.find fn = some (fun _ => pure v))
  (h : GE P main R D Stop F b cs N ds (ρ.put o.dst v) (.inRegion ops rest :: k)) : GE P main R D Stop F b cs N ds ρ (.inRegion ops (i :: rest) :: k) :=
 GE.by U hd (fun T hT hl w _ => stepG_entry_pure v ho (hl.want hw) hk hop hf hname hb hn he) h
end
end Go.Proofs.Ytnikfjfcbpeieaa.Hk
end
section
namespace Go.Proofs.Ytnikfjfcbpeieaa.Hk
set_option linter.unusedVariables false
set_option linter.unusedSimpArgs false
inductive St | N | H | Q | C | E | F | T | V | A | B
 deriving DecidableEq
inductive Wd | w0 | w1 | w2 | w3 | w8 | w9 | w12 | w13 | w20
 deriving DecidableEq
def Wd.val : Wd → Int | .w0 => 0 | .w1 => 1 | .w2 => 2 | .w3 => 3 | .w8 => 8 | .w9 => 9 | .w12 => 12 | .w13 => 13 | .w20 => 20
def Wd.lv : Wd → Nat | .w0 => 2 | .w1 => 1 | .w2 => 2 | .w3 => 1 | .w8 => 3 | .w9 => 0 | .w12 => 2 | .w13 => 0 | .w20 => 1
def Wd.all : List Wd := [.w0, .w1, .w2, .w3, .w8, .w9, .w12, .w13, .w20]
def St.all : List St := [.N, .H, .Q, .C, .E, .F, .T, .V, .A, .B]
theorem Wd.mem_all (w : Wd) : w ∈ Wd.all := by cases w <;> simp [Wd.all]
theorem St.mem_all (w : St) : w ∈ St.all := by cases w <;> simp [St.all]
theorem Wd.val_inj {a b : Wd} (h : a.val = b.val) : a = b := by revert h; cases a <;> cases b <;> simp [Wd.val]
def tab : St → St → Wd → Bool → Bool
 | .N, .N, .w0, false | .H, .N, .w1, false | .H, .Q, .w9, false | .C, .Q, .w8, false | .E, .Q, .w2, false | .N, .Q, .w2, true | .N, .T, .w2, false | .N, .V, .w2, false
 | .H, .Q, .w3, true | .H, .T, .w3, false | .H, .V, .w3, false | .H, .Q, .w13, false | .F, .Q, .w12, false | .N, .Q, .w12, true | .N, .T, .w12, false | .N, .A, .w12, false
 | .Q, .Q, .w20, true | .Q, .T, .w20, false | .Q, .A, .w20, false | .Q, .B, .w20, false => true
 | _, _, _, _ => false
def J (a b : St) (w : Wd) (m : Bool) : Bool := tab a b w m || tab b a w m
theorem J.symm (a b : St) (w : Wd) (m : Bool) : J a b w m = J b a w m := by simp [J, Bool.or_comm]
def sm : St → Wd → Bool → List (St × Wd × Bool)
 | .N, .w0, m => [(.H, .w1, m)]
 | .N, .w1, m => [(.Q, .w9, m)]
 | .N, .w2, m => [(.H, .w3, m)]
 | .N, .w12, m => [(.Q, .w20, m)]
 | .V, .w2, m => [(.H, .w1, m)]
 | .V, .w3, m => [(.Q, .w9, m), (.Q, .w13, m)]
 | .Q, w, true => [(.T, w, false)]
 | .T, .w2, m => [(.V, .w2, m)]
 | .T, .w3, m => [(.V, .w3, m)]
 | .T, .w12, m => [(.A, .w12, m)]
 | .T, .w20, m => [(.A, .w20, m), (.B, .w20, m)]
 | .A, .w12, m => [(.H, .w1, m)]
 | .A, .w20, m => [(.H, .w9, m)]
 | .B, .w20, m => [(.H, .w13, m)]
 | .H, .w1, m => [(.N, .w0, m)]
 | .H, .w3, m => [(.N, .w2, m)]
 | .H, .w9, m => [(.C, .w8, m)]
 | .H, .w13, m => [(.F, .w12, m)]
 | .C, .w8, m => [(.E, .w2, m)]
 | .E, w, _ => [(.N, w, true)]
 | .F, w, _ => [(.N, w, true)]
 | _, _, _ => []
set_option maxRecDepth 100000 in
theorem J_all : (St.all.all fun a => St.all.all fun b => Wd.all.all fun w => [true, false].all fun m => !J a b w m || (sm a w m).all fun r => J r.1 b r.2.1 r.2.2) = true := by decide +kernel
theorem J_step {a b : St} {w : Wd} {m : Bool} {r : St × Wd × Bool} (h : J a b w m = true) (hr : r ∈ sm a w m) : J r.1 b r.2.1 r.2.2 = true := by
 have := J_all
 simp only [List.all_eq_true] at this
 have h1 := this a (St.mem_all a) b (St.mem_all b) w (Wd.mem_all w) m (by cases m <;> simp)
 rw [h] at h1
 simp only [Bool.not_true, Bool.false_or, List.all_eq_true] at h1
 exact h1 r hr
def okw (a : St) (w : Wd) (m : Bool) : Bool := St.all.any fun b => J a b w m
theorem okw_of {a b : St} {w : Wd} {m : Bool} (h : J a b w m = true) : okw a w m = true := List.any_eq_true.2 ⟨b, St.mem_all b, h⟩
inductive Ph
 | al | ld | l0 | r0
 | sq (aw sv : Bool) (o : Wd) (it : Nat) | r1 (aw sv : Bool) (it : Nat) | c2 (aw sv : Bool) (o : Wd) (it : Nat) | r3 (aw sv : Bool) (it : Nat)
 | t1 (sv : Bool) | s1 (sv : Bool) | t2 | r2 (sv : Bool) | a1 (s7 : Bool)
 | le | la | ur | ud | u0 | uc | us (hand : Bool) | ue
 deriving DecidableEq
def hd (aw sv : Bool) (o : Wd) (it : Nat) : Ph := match o with
 | .w1 | .w3 => .sq aw sv o it
 | _ => .c2 aw sv o it
inductive Mv : Ph → Wd → Bool → Ph → Wd → Bool → Prop
 | al {w m} : Mv .al w m .ld w m
 | ld {w m} : Mv .ld w m .l0 w m
 | l0 {m} : Mv .l0 .w0 m .le .w1 m
 | l0' {w m} : w ≠ .w0 → Mv .l0 w m .r0 w m
 | r0 {w m} : Mv .r0 w m (hd false false w 0) w m
 | sq {aw sv o it w m} : Mv (.sq aw sv o it) w m (.c2 aw sv o it) w m
 | sp {aw sv o it w m} : it < 4 → Mv (.sq aw sv o it) w m (.r1 aw sv it) w m
 | r1 {aw sv it w m} : it < 4 → Mv (.r1 aw sv it) w m (hd aw sv w (it + 1)) w m
 | n0 {sv it m} : Mv (.c2 false sv .w0 it) .w0 m .le .w1 m
 | n1 {sv it m} : Mv (.c2 false sv .w1 it) .w1 m (.t1 false) .w9 m
 | n2 {sv it m} : Mv (.c2 false sv .w2 it) .w2 m .le .w3 m
 | n12 {sv it m} : Mv (.c2 false sv .w12 it) .w12 m (.t1 false) .w20 m
 | v2 {sv it m} : Mv (.c2 true sv .w2 it) .w2 m .le .w1 m
 | v3 {sv it m} : Mv (.c2 true sv .w3 it) .w3 m (.t1 sv) (if sv then .w13 else .w9) m
 | v3' {sv it m} : Mv (.c2 true sv .w3 it) .w3 m (.s1 sv) (if sv then .w13 else .w9) m
 | miss {aw sv o it w m} : w ≠ o → Mv (.c2 aw sv o it) w m (.r3 aw sv it) w m
 | r3 {aw sv it w m} : Mv (.r3 aw sv it) w m (hd aw sv w it) w m
 | t1 {sv w m} : Mv (.t1 sv) w m (.s1 sv) w m
 | s1 {w} : Mv (.s1 false) w true .t2 w false
 | s1' {w} : Mv (.s1 true) w true (.r2 true) w false
 | t2 {sv w m} : Mv .t2 w m (.r2 sv) w m
 | r22 {sv m} : Mv (.r2 sv) .w2 m (hd true sv .w2 0) .w2 m
 | r23 {sv m} : Mv (.r2 sv) .w3 m (hd true sv .w3 0) .w3 m
 | r2c {sv m} : Mv (.r2 sv) .w12 m (.a1 false) .w12 m
 | r2d {sv m} : Mv (.r2 sv) .w20 m (.a1 sv) .w20 m
 | a1 {m} : Mv (.a1 false) .w12 m .le .w1 m
 | a1' {m} : Mv (.a1 false) .w20 m .le .w9 m
 | a1t {m} : Mv (.a1 true) .w20 m .le .w13 m
 | le {w m} : Mv .le w m .la w m
 | la {w m} : Mv .la w m .ur w m
 | ur {w m} : Mv .ur w m .ud w m
 | ud {w m} : Mv .ud w m .u0 w m
 | u1 {m} : Mv .u0 .w1 m .ue .w0 m
 | u3 {m} : Mv .u0 .w3 m .ue .w2 m
 | u9 {m} : Mv .u0 .w9 m .uc .w8 m
 | u13 {m} : Mv .u0 .w13 m (.us true) .w12 m
 | uc {m} : Mv .uc .w8 m (.us false) .w2 m
 | us {h w m} : Mv (.us h) w m .ue w true
def st : Ph → St
 | .al | .ld | .l0 | .r0 | .ue => .N
 | .sq aw _ _ _ | .r1 aw _ _ | .c2 aw _ _ _ | .r3 aw _ _ => if aw then .V else .N
 | .t1 _ | .s1 _ => .Q
 | .t2 | .r2 _ => .T
 | .a1 s7 => if s7 then .B else .A
 | .le | .la | .ur | .ud | .u0 => .H
 | .uc => .C
 | .us h => if h then .F else .E
theorem st_hd (aw sv : Bool) (o : Wd) (it : Nat) : st (hd aw sv o it) = if aw then .V else .N := by cases o <;> rfl
theorem Mv.st {p p' : Ph} {w w' : Wd} {m m' : Bool} (h : Mv p w m p' w' m') : (Hk.st p' = Hk.st p ∧ w' = w ∧ m' = m) ∨ (Hk.st p', w', m') ∈ sm (Hk.st p) w m := by
 cases h
 case v3 sv it => cases sv <;> simp [Hk.st, sm]
 case v3' sv it => cases sv <;> simp [Hk.st, sm]
 case r2d sv => cases sv <;> simp [Hk.st, sm]
 case us hh => cases hh <;> simp [Hk.st, sm]
 case r22 => exact .inr (by rw [st_hd]; simp [Hk.st, sm])
 case r23 => exact .inr (by rw [st_hd]; simp [Hk.st, sm])
 all_goals first
  | exact .inl ⟨rfl, rfl, rfl⟩
  | exact .inl ⟨(st_hd _ _ _ _).trans (by simp [Hk.st]), rfl, rfl⟩
  | exact .inr (by simp [Hk.st, sm])
  | exact .inr (by rw [st_hd]; simp [Hk.st, sm])
theorem Mv.J {p p' : Ph} {b : St} {w w' : Wd} {m m' : Bool} (h : Mv p w m p' w' m') (hj : Hk.J (Hk.st p) b w m = true) : Hk.J (Hk.st p') b w' m' = true := by
 rcases h.st with ⟨e1, e2, e3⟩ | hr
 ·rw [e1, e2, e3]; exact hj
 ·exact J_step hj hr
def rho (w : Wd) : Ph → Nat
 | .al => 18 | .ld => 17 | .l0 => 16 | .r0 => 15
 | .sq _ _ o it => if o = w then 2 + 2 * (4 - it) else 13
 | .r1 _ _ it => 1 + 2 * (4 - it)
 | .c2 _ _ o _ => if o = w then 1 else 12
 | .r3 _ _ _ => 11
 | .t1 _ => 23 | .s1 _ => 22 | .t2 => 21 | .r2 _ => 20 | .a1 _ => 19
 | .le => 6 | .la => 5 | .ur => 4 | .ud => 3 | .u0 => 2
 | .uc => 21 | .us _ => 20 | .ue => 19
theorem rho_le (w : Wd) (p : Ph) : rho w p ≤ 23 := by cases p <;> simp only [rho] <;> (try split) <;> omega
theorem rho_hd (aw sv : Bool) (o : Wd) (it : Nat) : rho o (hd aw sv o it) ≤ 2 + 2 * (4 - it) ∧ 1 ≤ rho o (hd aw sv o it) := by cases o <;> simp [hd, rho] <;> omega
theorem Mv.rho {p p' : Ph} {w w' : Wd} {m m' : Bool} (h : Mv p w m p' w' m') (hu : p ≠ .u0) : (w' = w ∧ Hk.rho w p' < Hk.rho w p) ∨ w'.lv < w.lv := by
 cases h
 case r0 => exact .inl ⟨rfl, Nat.lt_of_le_of_lt (rho_hd false false w 0).1 (by simp [Hk.rho]; try omega)⟩
 case sq => left; refine ⟨rfl, ?_⟩; simp only [Hk.rho]; split <;> omega
 case sp => left; refine ⟨rfl, ?_⟩; simp only [Hk.rho]; split <;> omega
 case r1 aw sv it hit => exact .inl ⟨rfl, Nat.lt_of_le_of_lt (rho_hd aw sv w (it + 1)).1 (by simp [Hk.rho]; try omega)⟩
 case v3 sv it => right; cases sv <;> decide
 case v3' sv it => right; cases sv <;> decide
 case miss aw sv o it hne => left; refine ⟨rfl, ?_⟩; simp only [Hk.rho]; rw [if_neg (Ne.symm hne)]; omega
 case r3 aw sv it => exact .inl ⟨rfl, Nat.lt_of_le_of_lt (rho_hd aw sv w it).1 (by simp [Hk.rho]; try omega)⟩
 case r22 sv => exact .inl ⟨rfl, Nat.lt_of_le_of_lt (rho_hd true sv .w2 0).1 (by simp [Hk.rho]; try omega)⟩
 case r23 sv => exact .inl ⟨rfl, Nat.lt_of_le_of_lt (rho_hd true sv .w3 0).1 (by simp [Hk.rho]; try omega)⟩
 all_goals first
  | exact absurd rfl hu
  | exact .inr (by decide)
  | exact .inl ⟨rfl, by simp [Hk.rho]⟩
def busy : St → Bool | .Q | .N | .V => false | _ => true
set_option maxRecDepth 100000 in
theorem J_busy_all : (St.all.all fun b => Wd.all.all fun w => !J .Q b w false || busy b) = true := by decide +kernel
theorem J_busy {b : St} {w : Wd} (h : J .Q b w false = true) : busy b = true := by
 have := J_busy_all
 simp only [List.all_eq_true] at this
 simpa [h] using this b (St.mem_all b) w (Wd.mem_all w)
set_option maxRecDepth 100000 in
theorem J_excl_all : (Wd.all.all fun w => [true, false].all fun m => !J .H .H w m) = true := by decide +kernel
theorem J_excl {w : Wd} {m : Bool} : J .H .H w m = false := by
 have := J_excl_all
 simp only [List.all_eq_true] at this
 simpa using this w (Wd.mem_all w) m (by cases m <;> simp)
end Go.Proofs.Ytnikfjfcbpeieaa.Hk
end
section
namespace Go.Proofs.Ytnikfjfcbpeieaa.Hk
open Go Go.Conc Go.Proofs.Ytnikfjfcbpeieaa.Lk
open Go.ConcN (PermW PermW.of PermW.app fork_knows RelBy Deaf_still)
open Go.ConcR (stA)
set_option linter.unusedVariables false
set_option linter.unusedSimpArgs false
structure Pl where
 S : Nat → Prop
 Wg : Nat
 Mu : Nat
 Al : Nat
 K : Nat
 Rb : Nat → Nat → Prop
def mA (Mu : Nat) : Addr := ⟨Mu, 0, none⟩
def mS (Mu : Nat) : Addr := ⟨Mu, 1, none⟩
section
variable (p : Pl) (Ow : Nat → Nat → Prop)
def AtW (l : Loc) : Prop := ∃ a, l = .cell a ∧ (a.block = p.Wg ∨ (a.block = p.Mu ∧ a.off < 2))
def RdW (i : Nat) (l : Loc) : Prop := ∃ a, l = .cell a ∧ (p.Rb i a.block ∨ (a.block = p.Mu ∧ a.off = 2))
def GdW (l : Loc) : Prop := ∃ a, l = .cell a ∧ a.block = p.Al
def OwW (x : Nat) (l : Loc) : Prop := ∃ a, l = .cell a ∧ Ow x a.block
structure Pl.Ok : Prop where
 rb : ∀ i b, p.Rb i b → b ≠ p.Wg ∧ b ≠ p.Mu ∧ b ≠ p.Al ∧ ¬ p.S b
 wm : p.Wg ≠ p.Mu
 wa : p.Wg ≠ p.Al
 ma : p.Mu ≠ p.Al
 sw : ¬ p.S p.Wg
 sM : ¬ p.S p.Mu
 sa : ¬ p.S p.Al
 k0 : 0 < p.K
def Tk (j : Nat) (t : Trace) : Option Nat → Prop
 | none => ∀ i a, touchAt t i = some a → GdW p a.loc → ∃ q, t.act? q = some (.mark (.releaseMerge (mA p.Mu))) ∧ t.heard q ∧ Before t i q
 | some x => x < j ∧ ∀ i a, touchAt t i = some a → GdW p a.loc → Knows t (p.K + x) i
structure MidH (B j : Nat) (tok : Option Nat) (t : Trace) : Prop where
 clean : ∀ said, ¬ Race said t
 quiet : ∀ i a, touchAt t i = some a → AtW p a.loc → a.kind ≠ .plain ∨ (Knows t 0 i ∧ ∀ x, x < j → Knows t (p.K + x) i)
 known : ∀ i a, touchAt t i = some a → a.loc.isMemory = true → Knows t 0 i ∨ (ShB p.S a.loc ∧ a.kind = .atomic) ∨
  ∃ x, x < j ∧ t.g? i = some (p.K + x) ∧ ((AtW p a.loc ∧ a.kind = .atomic) ∨ (RdW p x a.loc ∧ a.write = false ∧ a.kind = .plain) ∨ ((GdW p a.loc ∨ OwW Ow x a.loc) ∧ a.kind = .plain))
 rd : ∀ x, x < j → ∀ l, RdW p x l → PermW t (p.K + x) l
 own : ∀ i a, touchAt t i = some a → ∀ x, OwW Ow x a.loc → t.g? i = some (p.K + x)
 tok : Tk p j t tok
 over : ∀ i g, t.g? i = some g → g ≠ 0 → t.counts i → (∃ q, t.g? q = some 0 ∧ HappensBefore t i q) ∨ ∃ x, x < j ∧ g = p.K + x
 norel : NoRelease (stA p.Wg) t
 norelM : NoRelease (mA p.Mu) t
 seen : ∀ op ∈ t, op.act.low B
 ow : ∀ x b, Ow x b → x < j ∧ b < B ∧ b ≠ p.Wg ∧ b ≠ p.Mu ∧ b ≠ p.Al ∧ ¬ p.S b ∧ (∀ y, y < j → ¬ p.Rb y b) ∧ ∀ y, Ow y b → y = x
def NoRel (x : MemAct) : Prop := x ≠ .mark (.release (stA p.Wg)) ∧ x ≠ .mark (.release (mA p.Mu))
def OkM (B j : Nat) (x : MemAct) : Prop :=
 (∀ y, x.touch? = some y → (AtW p y.loc ∧ y.kind ≠ .plain) ∨ (¬ AtW p y.loc ∧ (ShB p.S y.loc → y.kind ≠ .plain) ∧ (y.write = true → ∀ i, i < j → ¬ RdW p i y.loc) ∧ ¬ GdW p y.loc ∧ ∀ x, ¬ OwW Ow x y.loc)) ∧ NoRel p x ∧ x.low B
def OkK (B i : Nat) (tok : Option Nat) (x : MemAct) : Prop :=
 (∀ y, x.touch? = some y → (AtW p y.loc ∧ y.kind = .atomic) ∨ (RdW p i y.loc ∧ y.write = false ∧ y.kind = .plain) ∨ (GdW p y.loc ∧ tok = some i ∧ y.kind = .plain) ∨ (OwW Ow i y.loc ∧ y.kind = .plain)) ∧ NoRel p x ∧ x.low B
end
section
variable {p : Pl} {Ow Ow' : Nat → Nat → Prop} {B j : Nat} {tok : Option Nat} {t u : Trace}
theorem rd_at (A : p.Ok) {x : Nat} {l : Loc} (h : RdW p x l) : ¬ AtW p l := by
 obtain ⟨a, rfl, h⟩ := h
 rintro ⟨b, e, h'⟩
 cases e
 have := A.wm
 rcases h with h | ⟨h, h2⟩ <;> rcases h' with h' | ⟨h', h3⟩
 ·exact (A.rb _ _ h).1 h'
 ·exact (A.rb _ _ h).2.1 h'
 ·exact A.wm (h'.symm.trans h)
 ·omega
theorem rd_gd (A : p.Ok) {x : Nat} {l : Loc} (h : RdW p x l) : ¬ GdW p l := by
 obtain ⟨a, rfl, h⟩ := h
 rintro ⟨b, e, h'⟩
 cases e
 rcases h with h | ⟨h, h2⟩
 ·exact (A.rb _ _ h).2.2.1 h'
 ·exact A.ma (h.symm.trans h')
theorem rd_sh (A : p.Ok) {x : Nat} {l : Loc} (h : RdW p x l) : ¬ ShB p.S l := by
 obtain ⟨a, rfl, h⟩ := h
 rintro ⟨b, e, h'⟩
 cases e
 rcases h with h | ⟨h, h2⟩
 ·exact (A.rb _ _ h).2.2.2 h'
 ·rw [h] at h'; exact A.sM h'
theorem gd_at (A : p.Ok) {l : Loc} (h : GdW p l) : ¬ AtW p l := by
 obtain ⟨a, rfl, h⟩ := h
 rintro ⟨b, e, h'⟩
 cases e
 rcases h' with h' | ⟨h', _⟩
 ·exact A.wa (h'.symm.trans h)
 ·exact A.ma (h'.symm.trans h)
theorem at_sh (A : p.Ok) {l : Loc} (h : AtW p l) : ¬ ShB p.S l := by
 obtain ⟨a, rfl, h⟩ := h
 rintro ⟨b, e, h'⟩
 cases e
 rcases h with h | ⟨h, _⟩ <;> rw [h] at h'
 ·exact A.sw h'
 ·exact A.sM h'
theorem ow_at (h : MidH p Ow B j tok t) {x : Nat} {l : Loc} (o : OwW Ow x l) : ¬ AtW p l := by
 obtain ⟨a, rfl, o⟩ := o
 rintro ⟨b, e, h'⟩
 cases e
 obtain ⟨_, _, h1, h2, _⟩ := h.ow _ _ o
 rcases h' with h' | ⟨h', _⟩
 ·exact h1 h'
 ·exact h2 h'
theorem ow_gd (h : MidH p Ow B j tok t) {x : Nat} {l : Loc} (o : OwW Ow x l) : ¬ GdW p l := by
 obtain ⟨a, rfl, o⟩ := o
 rintro ⟨b, e, h'⟩
 cases e
 exact (h.ow _ _ o).2.2.2.2.1 h'
theorem ow_rd (h : MidH p Ow B j tok t) {x y : Nat} (hy : y < j) {l : Loc} (o : OwW Ow x l) : ¬ RdW p y l := by
 obtain ⟨a, rfl, o⟩ := o
 rintro ⟨b, e, h'⟩
 cases e
 obtain ⟨_, _, _, h2, _, _, h3, _⟩ := h.ow _ _ o
 rcases h' with h' | ⟨h', _⟩
 ·exact h3 y hy h'
 ·exact h2 h'
theorem ow_eq (h : MidH p Ow B j tok t) {x y : Nat} {l : Loc} (o : OwW Ow x l) (o' : OwW Ow y l) : y = x := by
 obtain ⟨a, rfl, o⟩ := o
 obtain ⟨b, e, h'⟩ := o'
 cases e
 exact (h.ow _ _ o).2.2.2.2.2.2.2 y h'
theorem touch_low (h : ∀ op ∈ t, op.act.low B) {i : Nat} {a : Touch} {ad : Addr} (ha : touchAt t i = some a) (e : a.loc = .cell ad) : ad.block < B := by
 obtain ⟨x, hx, hxa⟩ := touch_of ha
 have h1 := h x (Array.mem_of_getElem? hx)
 cases hact : x.act with
 | access ev =>
  rw [hact] at h1 hxa
  obtain ⟨loc, wr, sy⟩ := ev
  cases loc <;> simp [MemAct.touch?] at hxa <;> (try (subst hxa; simp at e)) <;> (try (subst e; exact h1))
 | mark m =>
  rw [hact] at h1 hxa
  cases m <;> simp [MemAct.touch?] at hxa <;> (subst hxa; simp at e; subst e; exact h1)
 | _ => rw [hact] at hxa; simp [MemAct.touch?] at hxa
theorem noRace_mute {said : Bool} (h : ¬ Race said t) (hn : ∀ op ∈ u, op.act.touch? = none) : ¬ Race said (t ++ u) := by
 rintro ⟨i, k, hik, ⟨a, b, ha, hb, hc⟩, n1, n2⟩
 obtain ⟨x, hx, hxa⟩ := touch_of ha
 obtain ⟨y, hy, hyb⟩ := touch_of hb
 rcases getElem?_append_cases hy with ⟨hj, hy'⟩ | ⟨_, hyu⟩
 ·rcases getElem?_append_cases hx with ⟨hi, hx'⟩ | ⟨_, hxu⟩
  ·exact h ⟨i, k, hik, ⟨a, b, by simp [Trace.act?, hx', hxa], by simp [Trace.act?, hy', hyb], hc⟩, fun e => n1 (hb_app u e), fun e => n2 (hb_app u e)⟩
  ·rw [hn x hxu] at hxa; cases hxa
 ·rw [hn y hyu] at hyb; cases hyb
theorem MidH.mono {B' : Nat} (h : MidH p Ow B j tok t) (hB : B ≤ B') : MidH p Ow B' j tok t :=
 ⟨h.clean, h.quiet, h.known, h.rd, h.own, h.tok, h.over, h.norel, h.norelM, fun op hop => MemAct.low_mono hB (h.seen op hop), fun x b o => let ⟨h0, h1, h2⟩ := h.ow x b o; ⟨h0, by omega, h2⟩⟩
theorem overH_old (h : MidH p Ow B j tok t) {j' : Nat} (hj : j ≤ j') {i g : Nat} (hi : i < t.size) (hg : (t ++ u).g? i = some g) (hne : g ≠ 0) (hc : (t ++ u).counts i) :
  (∃ q, (t ++ u).g? q = some 0 ∧ HappensBefore (t ++ u) i q) ∨ ∃ x, x < j' ∧ g = p.K + x := by
 rcases h.over i g (by rw [← g?_app hi]; exact hg) hne ((counts_old hi).1 hc) with ⟨q, h1, h2⟩ | ⟨i', h1, h2⟩
 ·have hq : q < t.size := by
   unfold Trace.g? at h1
   obtain ⟨z, hz, _⟩ := Option.map_eq_some_iff.1 h1
   exact lt_size_of_getElem? hz
  exact .inl ⟨q, by rw [g?_app hq]; exact h1, hb_app u h2⟩
 ·exact .inr ⟨i', by omega, h2⟩
theorem MidH.known_old (h : MidH p Ow B j tok t) {i : Nat} {a : Touch} {x : MemOp} (hx : t[i]? = some x) (hxa : x.act.touch? = some a) (hm : a.loc.isMemory = true) :
  Knows (t ++ u) 0 i ∨ (ShB p.S a.loc ∧ a.kind = .atomic) ∨
  ∃ x, x < j ∧ (t ++ u).g? i = some (p.K + x) ∧ ((AtW p a.loc ∧ a.kind = .atomic) ∨ (RdW p x a.loc ∧ a.write = false ∧ a.kind = .plain) ∨ ((GdW p a.loc ∨ OwW Ow x a.loc) ∧ a.kind = .plain)) := by
 have hi := lt_size_of_getElem? hx
 rcases h.known i a (by rw [touchAt_of hx]; exact hxa) hm with h1 | h1 | ⟨i', h1, h2, h3⟩
 ·exact .inl (h1.app u)
 ·exact .inr (.inl h1)
 ·exact .inr (.inr ⟨i', h1, by rw [g?_app hi]; exact h2, h3⟩)
theorem MidH.quiet_old (h : MidH p Ow B j tok t) {i : Nat} {a : Touch} (ha : touchAt t i = some a) (hl : AtW p a.loc) : a.kind ≠ .plain ∨ (Knows (t ++ u) 0 i ∧ ∀ x, x < j → Knows (t ++ u) (p.K + x) i) :=
 (h.quiet i a ha hl).imp id fun ⟨h1, h2⟩ => ⟨h1.app u, fun x hx => (h2 x hx).app u⟩
theorem tk_app (h : Tk p j t tok) (hu : ∀ op ∈ u, ∀ b, op.act.touch? = some b → GdW p b.loc → ∃ x, tok = some x ∧ op.g = p.K + x) : Tk p j (t ++ u) tok := by
 cases tok with
 | none =>
  intro i a ha hl
  obtain ⟨z, hz, hza⟩ := touch_of ha
  rcases getElem?_append_cases hz with ⟨hi, hz'⟩ | ⟨_, hzu⟩
  ·obtain ⟨q, h1, h2, h3⟩ := h i a (by rw [touchAt_of hz']; exact hza) hl
   have hp := lt_of_act? h1
   exact ⟨q, by rw [act?_old hp]; exact h1, (heard_old hp).2 h2, h3.app u⟩
  ·obtain ⟨x, e, _⟩ := hu z hzu a hza hl
   cases e
 | some x =>
  refine ⟨h.1, fun i a ha hl => ?_⟩
  obtain ⟨z, hz, hza⟩ := touch_of ha
  rcases getElem?_append_cases hz with ⟨hi, hz'⟩ | ⟨_, hzu⟩
  ·exact (h.2 i a (by rw [touchAt_of hz']; exact hza) hl).app u
  ·obtain ⟨y, e, hg⟩ := hu z hzu a hza hl
   cases e
   have := knows_own hz
   rwa [hg] at this
theorem MidH.app0 (A : p.Ok) (h : MidH p Ow B j tok t) (hu : ∀ op ∈ u, op.g = 0) (hok : ∀ op ∈ u, OkM p Ow B j op.act) : MidH p Ow B j tok (t ++ u) := by
 refine ⟨fun said => noRace_append (h.clean said) hu fun i a ha op hop b hb hc => ?_, fun i a ha ho => ?_, fun i a ha hm => ?_, fun i hi l hl => (h.rd i hi l hl).app fun op hop b hb e hw => ?_, fun i a ha x o => ?_, tk_app h.tok fun op hop b hb hg => ?_, fun i g hg hne hc => ?_,
  norel_app h.norel fun op hop => (hok op hop).2.1.1, NoRelease.app h.norelM fun op hop => (hok op hop).2.1.2, seen_app h.seen fun op hop => (hok op hop).2.2, h.ow⟩
 ·obtain ⟨e, hm, hw, hk⟩ := hc
  have plain : a.kind = .plain → b.kind = .plain ∨ b.kind ≠ .plain := fun _ => Decidable.em _
  rcases h.known i a ha hm with h1 | ⟨h1, h2⟩ | ⟨x, h1, h2, ⟨h3, h4⟩ | ⟨h3, h4, h5⟩ | ⟨h3, h4⟩⟩
  ·exact h1
  ·exfalso
   rw [h2] at hk
   have hb' : b.kind ≠ .plain := by
    rcases (hok op hop).1 b hb with ⟨_, h3⟩ | ⟨_, h3, _⟩
    ·exact h3
    ·exact h3 (e ▸ h1)
   rcases hk with x | x | ⟨_, x, _⟩
   ·cases x
   ·exact hb' x
   ·cases x
  ·exfalso
   rw [h4] at hk
   have hb' : b.kind ≠ .plain := by
    rcases (hok op hop).1 b hb with ⟨_, h5⟩ | ⟨h5, _⟩
    ·exact h5
    ·exact absurd (e ▸ h3) h5
   rcases hk with x | x | ⟨_, x, _⟩
   ·cases x
   ·exact hb' x
   ·cases x
  ·exfalso
   have hbw : b.write = true := by
    rw [h4] at hw
    simpa using hw
   rcases (hok op hop).1 b hb with ⟨h6, _⟩ | ⟨_, _, h6, _⟩
   ·exact rd_at A h3 (e ▸ h6)
   ·exact h6 hbw x h1 (e ▸ h3)
  ·exfalso
   rcases (hok op hop).1 b hb with ⟨h6, _⟩ | ⟨_, _, _, h6, h7⟩
   ·rcases h3 with h3 | h3
    ·exact gd_at A h3 (e ▸ h6)
    ·exact ow_at h h3 (e ▸ h6)
   ·rcases h3 with h3 | h3
    ·exact h6 (e ▸ h3)
    ·exact h7 x (e ▸ h3)
 ·obtain ⟨x, hx, hxa⟩ := touch_of ha
  rcases getElem?_append_cases hx with ⟨hi, hx'⟩ | ⟨_, hxu⟩
  ·exact h.quiet_old (by rw [touchAt_of hx']; exact hxa) ho
  ·rcases (hok x hxu).1 a hxa with ⟨_, h1⟩ | ⟨h1, _⟩
   ·exact .inl h1
   ·exact absurd ho h1
 ·obtain ⟨x, hx, hxa⟩ := touch_of ha
  rcases getElem?_append_cases hx with ⟨hi, hx'⟩ | ⟨_, hxu⟩
  ·exact h.known_old hx' hxa hm
  ·have := knows_own hx
   rw [hu x hxu] at this
   exact .inl this
 ·rcases (hok op hop).1 b hb with ⟨h6, _⟩ | ⟨_, _, h6, _⟩
  ·exact absurd (e ▸ h6) (rd_at A hl)
  ·exact absurd (e ▸ hl) (h6 hw i hi)
 ·obtain ⟨z, hz, hza⟩ := touch_of ha
  rcases getElem?_append_cases hz with ⟨hi, hz'⟩ | ⟨_, hzu⟩
  ·rw [g?_app hi]; exact h.own i a (by rw [touchAt_of hz']; exact hza) x o
  ·rcases (hok z hzu).1 a hza with ⟨h6, _⟩ | ⟨_, _, _, _, h6⟩
   ·exact absurd h6 (ow_at h o)
   ·exact absurd o (h6 x)
 ·rcases (hok op hop).1 b hb with ⟨h6, _⟩ | ⟨_, _, _, h6, _⟩
  ·exact absurd h6 (gd_at A hg)
  ·exact absurd hg h6
 ·obtain ⟨op, hop, hog⟩ := op_of_g hg
  rcases getElem?_append_cases hop with ⟨hi, _⟩ | ⟨_, hopu⟩
  ·exact overH_old h (Nat.le_refl j) hi hg hne hc
  ·exact absurd (hog.symm.trans (hu op hopu)) hne
theorem MidH.appW (A : p.Ok) (h : MidH p Ow B j tok t) {i : Nat} (hij : i < j) (hu : ∀ op ∈ u, op.g = p.K + i) (hok : ∀ op ∈ u, OkK p Ow B i tok op.act) : MidH p Ow B j tok (t ++ u) := by
 refine ⟨fun said => noRace_append (h.clean said) hu fun q a ha op hop b hb hc => ?_, fun q a ha ho => ?_, fun q a ha hm => ?_, fun q hq l hl => (h.rd q hq l hl).app fun op hop b hb e hw => ?_, fun q a ha x o => ?_, tk_app h.tok fun op hop b hb hg => ?_, fun q g hg hne hc => ?_,
  norel_app h.norel fun op hop => (hok op hop).2.1.1, NoRelease.app h.norelM fun op hop => (hok op hop).2.1.2, seen_app h.seen fun op hop => (hok op hop).2.2, h.ow⟩
 ·obtain ⟨e, hm, hw, hk⟩ := hc
  rcases (hok op hop).1 b hb with ⟨h1, h2⟩ | ⟨h1, h2, h3⟩ | ⟨h1, h2, h3⟩ | ⟨h1, h3⟩
  ·rw [h2] at hk
   rcases h.quiet q a ha (e ▸ h1) with h4 | ⟨_, h4⟩
   ·exfalso
    rcases hk with x | x | ⟨_, _, x⟩
    ·exact h4 x
    ·cases x
    ·cases x
   ·exact h4 i hij
  ·have haw : a.write = true := by
    rw [h2] at hw
    simpa using hw
   exact h.rd i hij b.loc h1 q a ha e haw
  ·have := h.tok
   rw [h2] at this
   exact this.2 q a ha (e ▸ h1)
  ·have h5 := h.own q a ha i (e ▸ h1)
   obtain ⟨z, hz, hzg⟩ := op_of_g h5
   have := knows_own hz
   rwa [hzg] at this
 ·obtain ⟨x, hx, hxa⟩ := touch_of ha
  rcases getElem?_append_cases hx with ⟨hi, hx'⟩ | ⟨_, hxu⟩
  ·exact h.quiet_old (by rw [touchAt_of hx']; exact hxa) ho
  ·rcases (hok x hxu).1 a hxa with ⟨_, h1⟩ | ⟨h1, _⟩ | ⟨h1, _⟩ | ⟨h1, _⟩
   ·rw [h1]; exact .inl (by simp)
   ·exact absurd ho (rd_at A h1)
   ·exact absurd ho (gd_at A h1)
   ·exact absurd ho (ow_at h h1)
 ·obtain ⟨x, hx, hxa⟩ := touch_of ha
  rcases getElem?_append_cases hx with ⟨hi, hx'⟩ | ⟨_, hxu⟩
  ·exact h.known_old hx' hxa hm
  ·refine .inr (.inr ⟨i, hij, by simp [Trace.g?, hx, hu x hxu], ?_⟩)
   rcases (hok x hxu).1 a hxa with h1 | h1 | ⟨h1, _, h2⟩ | ⟨h1, h2⟩
   ·exact .inl h1
   ·exact .inr (.inl h1)
   ·exact .inr (.inr ⟨.inl h1, h2⟩)
   ·exact .inr (.inr ⟨.inr h1, h2⟩)
 ·rcases (hok op hop).1 b hb with ⟨h6, _⟩ | ⟨_, h6, _⟩ | ⟨h6, _⟩ | ⟨h6, _⟩
  ·exact absurd (e ▸ h6) (rd_at A hl)
  ·rw [h6] at hw; cases hw
  ·exact absurd (e ▸ h6) (rd_gd A hl)
  ·exact absurd hl (e ▸ ow_rd h hq h6)
 ·obtain ⟨z, hz, hza⟩ := touch_of ha
  rcases getElem?_append_cases hz with ⟨hi, hz'⟩ | ⟨_, hzu⟩
  ·rw [g?_app hi]; exact h.own q a (by rw [touchAt_of hz']; exact hza) x o
  ·rcases (hok z hzu).1 a hza with ⟨h6, _⟩ | ⟨h6, _⟩ | ⟨h6, _⟩ | ⟨h6, _⟩
   ·exact absurd h6 (ow_at h o)
   ·exact absurd h6 (ow_rd h hij o)
   ·exact absurd h6 (ow_gd h o)
   ·obtain rfl := ow_eq h h6 o
    simp [Trace.g?, hz, hu z hzu]
 ·rcases (hok op hop).1 b hb with ⟨h6, _⟩ | ⟨h6, _⟩ | ⟨_, h6, _⟩ | ⟨h6, _⟩
  ·exact absurd h6 (gd_at A hg)
  ·exact absurd hg (rd_gd A h6)
  ·exact ⟨i, h6, hu op hop⟩
  ·exact absurd hg (ow_gd h h6)
 ·obtain ⟨op, hop, hog⟩ := op_of_g hg
  rcases getElem?_append_cases hop with ⟨hi, _⟩ | ⟨_, hopu⟩
  ·exact overH_old h (Nat.le_refl j) hi hg hne hc
  ·exact .inr ⟨i, hij, hog.symm.trans (hu op hopu)⟩
theorem MidH.appMute (h : MidH p Ow B j tok t) (hn : ∀ op ∈ u, op.act.touch? = none) (hr : ∀ op ∈ u, NoRel p op.act) (hl : ∀ op ∈ u, op.act.low B) : MidH p Ow B j tok (t ++ u) := by
 refine ⟨fun said => noRace_mute (h.clean said) hn, fun i a ha ho => ?_, fun i a ha hm => ?_, fun i hi l hl => (h.rd i hi l hl).app fun op hop b hb _ _ => (by rw [hn op hop] at hb; cases hb), fun i a ha x o => ?_, tk_app h.tok fun op hop b hb _ => (by rw [hn op hop] at hb; cases hb), fun i g' hg hne hc => ?_,
  norel_app h.norel fun op hop => (hr op hop).1, NoRelease.app h.norelM fun op hop => (hr op hop).2, seen_app h.seen hl, h.ow⟩
 ·obtain ⟨x, hx, hxa⟩ := touch_of ha
  rcases getElem?_append_cases hx with ⟨hi, hx'⟩ | ⟨_, hxu⟩
  ·exact h.quiet_old (by rw [touchAt_of hx']; exact hxa) ho
  ·rw [hn x hxu] at hxa; cases hxa
 ·obtain ⟨x, hx, hxa⟩ := touch_of ha
  rcases getElem?_append_cases hx with ⟨hi, hx'⟩ | ⟨_, hxu⟩
  ·exact h.known_old hx' hxa hm
  ·rw [hn x hxu] at hxa; cases hxa
 ·obtain ⟨z, hz, hza⟩ := touch_of ha
  rcases getElem?_append_cases hz with ⟨hi, hz'⟩ | ⟨_, hzu⟩
  ·rw [g?_app hi]; exact h.own i a (by rw [touchAt_of hz']; exact hza) x o
  ·rw [hn z hzu] at hza; cases hza
 ·obtain ⟨x, hx, hx2⟩ := hc
  obtain ⟨op, hop, hox⟩ := touch_of hx
  rcases getElem?_append_cases hop with ⟨hi, _⟩ | ⟨_, hopu⟩
  ·exact overH_old h (Nat.le_refl j) hi hg hne ⟨x, hx, hx2⟩
  ·rw [hn op hopu] at hox; cases hox
theorem old_touch1 {z : MemOp} (hn : z.act.touch? = none) {i : Nat} {x : Touch} (hx : touchAt (t ++ #[z]) i = some x) : touchAt t i = some x := by
 obtain ⟨y, hy, hyx⟩ := touch_of hx
 rcases getElem?_append_cases hy with ⟨_, hy'⟩ | ⟨_, hyu⟩
 ·rw [touchAt_of hy']; exact hyx
 ·simp at hyu; subst hyu; rw [hn] at hyx; cases hyx
theorem MidH.acquire (h : MidH p Ow B j none t) {i : Nat} (hi : i < j) {z : MemOp} (hg : z.g = p.K + i) (hz : z.act = .mark (.acquire (mA p.Mu))) (hd : Deaf t (p.K + i) = 0) (hl : z.act.low B) : MidH p Ow B j (some i) (t ++ #[z]) := by
 have hn : z.act.touch? = none := by rw [hz]; rfl
 have hb := h.appMute (u := #[z]) (fun op hop => by simp at hop; rw [hop]; exact hn) (fun op hop => by simp at hop; rw [hop, hz]; exact ⟨by simp, by simp⟩) (fun op hop => by simp at hop; rw [hop]; exact hl)
 have hq : (t ++ #[z])[t.size]? = some z := by simp
 refine ⟨hb.clean, hb.quiet, hb.known, hb.rd, hb.own, ⟨hi, fun q x hx e => ?_⟩, hb.over, hb.norel, hb.norelM, hb.seen, hb.ow⟩
 obtain ⟨r, h1, h2, h3⟩ := h.tok q x (old_touch1 hn hx) e
 have hp := lt_of_act? h1
 have edge : HappensBefore (t ++ #[z]) r t.size := .single (.inr ⟨.marked hp (.inr (by rw [act?_old hp]; exact h1)) (by rw [act?_of hq, hz]) (fun k _ _ => hb.norelM k), (heard_old hp).2 h2,
  ⟨z.g, by simp [Trace.g?], by rw [deaf_old (Nat.le_refl _), hg]; exact hd⟩⟩)
 exact ⟨t.size, z, hq, hg, .inr ((h3.app #[z]).hb edge)⟩
theorem MidH.release {i : Nat} (h : MidH p Ow B j (some i) t) {y : MemOp} (hg : y.g = p.K + i) (hy : y.act = .mark (.releaseMerge (mA p.Mu))) (hd : Deaf t (p.K + i) = 0) (hl : y.act.low B) : MidH p Ow B j none (t ++ #[y]) := by
 have hn : y.act.touch? = none := by rw [hy]; rfl
 have hb := h.appMute (u := #[y]) (fun op hop => by simp at hop; rw [hop]; exact hn) (fun op hop => by simp at hop; rw [hop, hy]; exact ⟨by simp, by simp⟩) (fun op hop => by simp at hop; rw [hop]; exact hl)
 have hq : (t ++ #[y])[t.size]? = some y := by simp
 refine ⟨hb.clean, hb.quiet, hb.known, hb.rd, hb.own, fun q x hx e => ⟨t.size, by rw [act?_of hq, hy], ⟨p.K + i, by simp [Trace.g?, hg], by rw [deaf_old (Nat.le_refl _)]; exact hd⟩, .inr ?_⟩, hb.over, hb.norel, hb.norelM, hb.seen, hb.ow⟩
 exact (h.tok.2 q x (old_touch1 hn hx) e).hb_new (Nat.le_refl _) hq hg
theorem MidH.newOw (h : MidH p Ow B j tok t) {i B' : Nat} (hi : i < j) (hB : B < B') (hf : B ≠ p.Wg ∧ B ≠ p.Mu ∧ B ≠ p.Al ∧ ¬ p.S B ∧ ∀ y, y < j → ¬ p.Rb y B) : MidH p (fun x b => Ow x b ∨ (x = i ∧ b = B)) B' j tok t := by
 have hb := h.mono (Nat.le_of_lt hB)
 refine ⟨hb.clean, hb.quiet, fun q a ha hm => ?_, hb.rd, fun q a ha x o => ?_, hb.tok, hb.over, hb.norel, hb.norelM, hb.seen, fun x b o => ?_⟩
 ·rcases hb.known q a ha hm with h1 | h1 | ⟨x, h1, h2, h3⟩
  ·exact .inl h1
  ·exact .inr (.inl h1)
  ·refine .inr (.inr ⟨x, h1, h2, h3.imp id (Or.imp id fun ⟨h4, h5⟩ => ⟨h4.imp id fun ⟨ad, e, o⟩ => ⟨ad, e, .inl o⟩, h5⟩)⟩)
 ·obtain ⟨ad, e, o | ⟨rfl, o⟩⟩ := o
  ·exact h.own q a ha x ⟨ad, e, o⟩
  ·have := touch_low h.seen ha e
   omega
 ·rcases o with o | ⟨rfl, rfl⟩
  ·obtain ⟨h0, h1, h2, h3, h4, h5, h6, h7⟩ := h.ow x b o
   refine ⟨h0, by omega, h2, h3, h4, h5, h6, fun y hy => ?_⟩
   rcases hy with hy | ⟨rfl, rfl⟩
   ·exact h7 y hy
   ·omega
  ·refine ⟨hi, hB, hf.1, hf.2.1, hf.2.2.1, hf.2.2.2.1, hf.2.2.2.2, fun y hy => ?_⟩
   rcases hy with hy | ⟨rfl, _⟩
   ·have := (h.ow y _ hy).2.1; omega
   ·rfl
theorem MidH.turn {p' : Pl} (h : MidH p Ow B j tok t) (e : p'.S = p.S ∧ p'.Wg = p.Wg ∧ p'.Mu = p.Mu ∧ p'.Al = p.Al ∧ p'.K = p.K) (hr : ∀ x, x < j → p'.Rb x = p.Rb x) : MidH p' Ow B j tok t := by
 obtain ⟨S, Wg, Mu, Al, K, Rb⟩ := p
 obtain ⟨S', Wg', Mu', Al', K', Rb'⟩ := p'
 obtain ⟨rfl, rfl, rfl, rfl, rfl⟩ := e
 have hrd : ∀ x, x < j → ∀ l, RdW ⟨S', Wg', Mu', Al', K', Rb'⟩ x l ↔ RdW ⟨S', Wg', Mu', Al', K', Rb⟩ x l := fun x hx l => by
  have := hr x hx
  unfold RdW
  simp only at this ⊢
  rw [this]
 refine ⟨h.clean, h.quiet, fun q a ha hm => ?_, fun x hx l hl => h.rd x hx l ((hrd x hx l).1 hl), h.own, h.tok, h.over, h.norel, h.norelM, h.seen, fun x b o => ?_⟩
 ·rcases h.known q a ha hm with h1 | h1 | ⟨x, h1, h2, h3⟩
  ·exact .inl h1
  ·exact .inr (.inl h1)
  ·exact .inr (.inr ⟨x, h1, h2, h3.imp id (Or.imp (fun ⟨a, b⟩ => ⟨(hrd x h1 _).2 a, b⟩) id)⟩)
 ·obtain ⟨h0, h1, h2, h3, h4, h5, h6, h7⟩ := h.ow x b o
  exact ⟨h0, h1, h2, h3, h4, h5, fun y hy => by have := hr y hy; simp only at this; simp only [this]; exact h6 y hy, h7⟩
theorem MidH.fork (A : p.Ok) (h : MidH p Ow B j tok t) (hj : ∀ x b, Ow x b → ¬ p.Rb j b) {x y : MemOp} (hx : x.g = 0 ∧ x.act = .go (p.K + j)) (hy : y.g = p.K + j ∧ y.act = .start) (h0 : Deaf t 0 = 0) (hk : Deaf t (p.K + j) = 0) : MidH p Ow B (j + 1) tok (t ++ #[x, y]) := by
 have hm2 : ∀ op ∈ #[x, y], op = x ∨ op = y := by intro op hop; simpa using hop
 have hnt : ∀ op ∈ #[x, y], op.act.touch? = none := by
  intro op hop
  rcases hm2 op hop with rfl | rfl
  ·rw [hx.2]; rfl
  ·rw [hy.2]; rfl
 have h1 : MidH p Ow B j tok (t ++ #[x, y]) := h.appMute hnt (fun op hop => (hm2 op hop).elim (fun e => by rw [e, hx.2]; exact ⟨by simp, by simp⟩) fun e => by rw [e, hy.2]; exact ⟨by simp, by simp⟩) (fun op hop => (hm2 op hop).elim (fun e => by rw [e, hx.2]; trivial) fun e => by rw [e, hy.2]; trivial)
 have old : ∀ {q : Nat} {a : Touch}, touchAt (t ++ #[x, y]) q = some a → touchAt t q = some a := fun {q a} ha => by
  obtain ⟨z, hz, hza⟩ := touch_of ha
  rcases getElem?_append_cases hz with ⟨hlt, hz'⟩ | ⟨_, hzu⟩
  ·rw [touchAt_of hz']; exact hza
  ·rw [hnt z hzu] at hza; cases hza
 refine ⟨h1.clean, fun q a ha hl => ?_, fun i a ha hm => ?_, fun i hi l hl => ?_, h1.own, ?_, fun i g hg hne hc => ?_, h1.norel, h1.norelM, h1.seen, fun z b o => ?_⟩
 ·rcases h.quiet q a (old ha) hl with h2 | ⟨h2, h3⟩
  ·exact .inl h2
  ·refine .inr ⟨h2.app _, fun z hz => ?_⟩
   rcases Nat.lt_or_ge z j with hlt | hge
   ·exact (h3 z hlt).app _
   ·obtain rfl : z = j := by omega
    exact fork_knows hx hy h0 hk h2
 ·rcases h1.known i a ha hm with h | h | ⟨i', h2, h3, h4⟩
  ·exact .inl h
  ·exact .inr (.inl h)
  ·exact .inr (.inr ⟨i', by omega, h3, h4⟩)
 ·rcases Nat.lt_or_ge i j with hlt | hge
  ·exact h1.rd i hlt l hl
  ·obtain rfl : i = j := by omega
   intro q a ha el hw
   refine fork_knows hx hy h0 hk ?_
   obtain ⟨ad, hla, hl'⟩ := hl
   rcases h.known q a (old ha) (by rw [el, hla]; rfl) with h2 | ⟨h2, _⟩ | ⟨z, hz, _, ⟨h2, _⟩ | ⟨_, h2, _⟩ | ⟨h2 | h2, _⟩⟩
   ·exact h2
   ·exact absurd (el ▸ h2) (rd_sh A ⟨ad, hla, hl'⟩)
   ·exact absurd (el ▸ h2) (rd_at A ⟨ad, hla, hl'⟩)
   ·rw [h2] at hw; cases hw
   ·exact absurd (el ▸ h2) (rd_gd A ⟨ad, hla, hl'⟩)
   ·exfalso
    obtain ⟨ad', e', o⟩ := h2
    rw [el, hla] at e'
    cases e'
    rcases hl' with hl' | ⟨hl', _⟩
    ·exact hj z _ o hl'
    ·exact (h.ow z _ o).2.2.2.1 hl'
 ·have h2 := h1.tok
  cases tok with
  | none => exact h2
  | some z => exact ⟨Nat.lt_succ_of_lt h2.1, h2.2⟩
 ·rcases h1.over i g hg hne hc with h | ⟨i', h2, h3⟩
  ·exact .inl h
  ·exact .inr ⟨i', by omega, h3⟩
 ·obtain ⟨h0, h1, h2, h3, h4, h5, h6, h7⟩ := h.ow z b o
  refine ⟨by omega, h1, h2, h3, h4, h5, fun w hw => ?_, h7⟩
  rcases Nat.lt_or_ge w j with hlt | hge
  ·exact h6 w hlt
  ·obtain rfl : w = j := by omega
   exact hj z b o
def Fresh (p : Pl) (x : MemAct) : Prop := (∀ y, x.touch? = some y → ¬ GdW p y.loc) ∧ NoRel p x
theorem MidH.begin (A : p.Ok) (h : Past (ShB p.S) B t) (hf : ∀ op ∈ t, Fresh p op.act) : MidH p (fun _ _ => False) B 0 none t := by
 have nr : ∀ a, (a = stA p.Wg ∨ a = mA p.Mu) → NoRelease a t := fun a ha i hi => by
  obtain ⟨op, ho, hoa⟩ := Option.map_eq_some_iff.1 hi
  have := (hf op (Array.mem_of_getElem? ho)).2
  rcases ha with rfl | rfl
  ·exact this.1 hoa
  ·exact this.2 hoa
 refine ⟨h.clean, fun i a ha hl => ?_, fun i a ha hm => (h.known i a ha hm).imp id .inl, fun x hx => absurd hx (Nat.not_lt_zero x), fun _ _ _ _ o => ?_, fun i a ha hl => ?_, fun i g hg hne hc => .inl (h.over i g hg hne hc), nr _ (.inl rfl), nr _ (.inr rfl), h.seen, fun _ _ o => o.elim⟩
 ·have hm : a.loc.isMemory = true := by obtain ⟨ad, e, _⟩ := hl; rw [e]; rfl
  rcases h.known i a ha hm with h1 | ⟨h1, _⟩
  ·exact .inr ⟨h1, fun x hx => absurd hx (Nat.not_lt_zero x)⟩
  ·exact absurd h1 (at_sh A hl)
 ·obtain ⟨_, _, o⟩ := o; exact o.elim
 ·obtain ⟨z, hz, hza⟩ := touch_of ha
  exact absurd hl ((hf z (Array.mem_of_getElem? hz)).1 a hza)
def Gone (Wg k : Nat) (t : Trace) (r : Nat) : Prop := RelBy (stA Wg) t k r ∧ ∀ i a, r < i → t.g? i = some k → touchAt t i = some a → ∃ ad, a.loc = .cell ad ∧ ad.block = Wg
theorem Gone.app {Wg k r : Nat} (h : Gone Wg k t r) (hr : RelBy (stA Wg) (t ++ u) k r) (hu : ∀ op ∈ u, op.g = k → ∀ a, op.act.touch? = some a → ∃ ad, a.loc = .cell ad ∧ ad.block = Wg) : Gone Wg k (t ++ u) r := by
 refine ⟨hr, fun i a hi hg ha => ?_⟩
 obtain ⟨z, hz, hza⟩ := touch_of ha
 rcases getElem?_append_cases hz with ⟨hlt, hz'⟩ | ⟨_, hzu⟩
 ·exact h.2 i a hi (by rw [← g?_app (u := u) hlt]; exact hg) (by rw [touchAt_of hz']; exact hza)
 ·exact hu z hzu (by simpa [Trace.g?, hz] using hg) a hza
theorem Gone.new {Wg k : Nat} {z : MemOp} (hg : z.g = k) (hz : z.act = .mark (.releaseMerge (stA Wg))) (hd : Deaf t k = 0) : Gone Wg k (t ++ #[z]) t.size := by
 have hq : (t ++ #[z])[t.size]? = some z := by simp
 have later : ∀ i, t.size < i → (t ++ #[z])[i]? = none := fun i hi => Array.getElem?_eq_none (by simp; omega)
 refine ⟨⟨by rw [act?_of hq, hz], by simp [Trace.g?, hg], ⟨k, by simp [Trace.g?, hg], by rw [deaf_old (Nat.le_refl _)]; exact hd⟩, fun i hi hgi => ?_⟩, fun i a hi hgi => ?_⟩
 ·rw [show (t ++ #[z]).g? i = none by unfold Trace.g?; rw [later i hi]; rfl] at hgi; cases hgi
 ·rw [show (t ++ #[z]).g? i = none by unfold Trace.g?; rw [later i hi]; rfl] at hgi; cases hgi
def AcqH (Wg K j : Nat) (t : Trace) : Prop :=
 ∃ q, t.act? q = some (.mark (.acquire (stA Wg))) ∧ t.g? q = some 0 ∧ t.heard q ∧ ∀ i, i < j → ∃ r, Gone Wg (K + i) t r ∧ r < q
theorem AcqH.app {Wg K : Nat} (h : AcqH Wg K j t) (hu : ∀ i r, i < j → Gone Wg (K + i) t r → Gone Wg (K + i) (t ++ u) r) : AcqH Wg K j (t ++ u) := by
 obtain ⟨q, h1, h2, h3, h4⟩ := h
 have hq := lt_of_act? h1
 exact ⟨q, by rw [act?_old hq]; exact h1, by rw [g?_app hq]; exact h2, (heard_old hq).2 h3, fun i hi => let ⟨r, hr, hrq⟩ := h4 i hi; ⟨r, hu i r hi hr, hrq⟩⟩
theorem MidH.end_ (h : MidH p Ow B j tok t) (ha : AcqH p.Wg p.K j t) (h0 : Deaf t 0 = 0) (hK : 0 < p.K) : Past (ShB fun b => p.S b ∨ b = p.Wg) B t := by
 obtain ⟨q, q1, q2, q3, q4⟩ := ha
 obtain ⟨z, hz, hzg⟩ := op_of_g q2
 have edge : ∀ i, i < j → ∃ r, Gone p.Wg (p.K + i) t r ∧ ∀ k, t.g? k = some (p.K + i) → k ≤ r → HappensBefore t k q := fun i hi => by
  obtain ⟨r, hr, hrq⟩ := q4 i hi
  have e : HappensBefore t r q := .single (.inr ⟨.marked hrq (.inr hr.1.act) q1 (fun k _ _ => h.norel k), hr.1.heard, q3⟩)
  refine ⟨r, hr, fun k hk hle => ?_⟩
  rcases Nat.lt_or_ge k r with hlt | hge
  ·exact .trans (.single (.inl ⟨hlt, p.K + i, hk, hr.1.g⟩)) e
  ·obtain rfl : k = r := by omega
   exact e
 refine ⟨h.clean, fun i a hta hm => ?_, fun i g hg hne hc => ?_, h0, h.seen⟩
 ·rcases h.known i a hta hm with h1 | ⟨⟨ad, e, hs⟩, h2⟩ | ⟨x, h1, h2, h3⟩
  ·exact .inl h1
  ·exact .inr ⟨⟨ad, e, .inl hs⟩, h2⟩
  ·obtain ⟨r, hr, he⟩ := edge x h1
   rcases Nat.lt_or_ge r i with hlt | hge
   ·obtain ⟨ad, e, hb⟩ := hr.2 i a hlt h2 hta
    rcases h3 with ⟨_, h3⟩ | ⟨_, _, h3⟩ | ⟨_, h3⟩
    ·exact .inr ⟨⟨ad, e, .inr hb⟩, h3⟩
    all_goals exact absurd (hr.1.after i hlt h2) (fun hn => hn ⟨a, hta, hm, .inl (by rw [h3]; simp)⟩)
   ·exact .inl ⟨q, z, hz, hzg, .inr (he i h2 hge)⟩
 ·rcases h.over i g hg hne hc with h1 | ⟨x, h1, rfl⟩
  ·exact h1
  ·obtain ⟨r, hr, he⟩ := edge x h1
   exact ⟨q, q2, he i hg (Nat.le_of_not_lt fun hlt => hr.1.after i hlt hg hc)⟩
end
end Go.Proofs.Ytnikfjfcbpeieaa.Hk
end
section
namespace Go.Proofs.Ytnikfjfcbpeieaa.Hk
open Go Go.Conc Go.Proofs.Ytnikfjfcbpeieaa.Lk
open Go.ConcR (KK wgBlock WgAt stA smA rd wr)
set_option linter.unusedVariables false
set_option linter.unusedSimpArgs false
def muO (Al n : Nat) (wd : Wd) (m : Bool) : Obj := .cells #[.int .i32 wd.val, .int .u32 (if m then 1 else 0), .slice (some ⟨Al, 0, none⟩) n n] 103
def MuIs (p : Pl) (n : Nat) (w : World) (wd : Wd) (m : Bool) : Prop := w.heap[p.Mu]? = some (muO p.Al n wd m)
def alO (c : List Int) : Obj := .cells (c.map (Value.int .i64)).toArray 3
def AlIs (p : Pl) (c : List Int) (w : World) : Prop := w.heap[p.Al]? = some (alO c)
def inc (c : List Int) (b : Int) : List Int := c.set b.toNat (IntKind.i64.wrap (c.getD b.toNat 0 + 1))
theorem inc_length (c : List Int) (b : Int) : (inc c b).length = c.length := by simp [inc]
structure LiveH (p : Pl) (n : Nat) (w : World) : Prop where
 wg : Live p.Wg w
 mu : ∃ wd m, MuIs p n w wd m
 al : ∃ c : List Int, c.length = n ∧ AlIs p c w
def Later (o o' : Os) : Prop := ∃ d : Nat, o' = { o with wall := o.wall + d, mono := o.mono + d }
theorem Later.refl (o : Os) : Later o o := ⟨0, rfl⟩
theorem Later.trans {a b c : Os} (h : Later a b) (k : Later b c) : Later a c := by
 obtain ⟨d, rfl⟩ := h
 obtain ⟨e, rfl⟩ := k
 exact ⟨d + e, by simp [Nat.add_assoc]⟩
structure EnvH (p : Pl) (n i : Nat) (o : Option Nat) (h : Bool) (w w₁ : World) : Prop where
 low : ∀ b, p.Rb i b → w₁.heap[b]? = w.heap[b]?
 own : ∀ b, o = some b → w₁.heap[b]? = w.heap[b]?
 live : LiveH p n w → LiveH p n w₁
 crit : h = true → w₁.heap[p.Al]? = w.heap[p.Al]?
 wg : Live p.Wg w → Live p.Wg w₁
def OkE (p : Pl) (i : Nat) (o : Option Nat) (h : Bool) (B : Nat) (e : Event) : Prop :=
 (∀ y, (MemAct.ofEvent e).touch? = some y → (RdW p i y.loc ∧ y.write = false ∧ y.kind = .plain) ∨ (GdW p y.loc ∧ h = true ∧ y.kind = .plain) ∨ ((∃ ad, o = some ad.block ∧ y.loc = .cell ad) ∧ y.kind = .plain)) ∧
  NoRel p (.ofEvent e) ∧ (MemAct.ofEvent e).low B ∧ e.loc ≠ .mark .disable ∧ e.loc ≠ .mark .enable
structure DoH (p : Pl) (n i : Nat) (o : Option Nat) (h : Bool) (w w' : World) (es : Array Event) : Prop where
 tape : w'.tape = w.tape
 output : w'.output = w.output
 os : w'.os = w.os
 size : w'.heap.size = w.heap.size
 block : ∀ b, o ≠ some b → (b = p.Al → h = false) → w'.heap[b]? = w.heap[b]?
 live : LiveH p n w → LiveH p n w'
 ev : ∀ e ∈ es, OkE p i o h w'.heap.size e
structure EffH (p : Pl) (w w' : World) : Prop where
 tape : w'.tape = w.tape
 output : w'.output = w.output
 size : w'.heap.size = w.heap.size
 os : Later w.os w'.os
 block : ∀ b, b ≠ p.Mu → w'.heap[b]? = w.heap[b]?
abbrev RunsH (p : Pl) (n i : Nat) (o : Option Nat) (h : Bool) := Runs Try.prog false (EnvH p n i o h) (DoH p n i o h)
def SilE (p : Pl) (B : Nat) (e : Event) : Prop := (MemAct.ofEvent e).touch? = none ∧ NoRel p (.ofEvent e) ∧ (MemAct.ofEvent e).low B ∧ e.loc ≠ .mark .disable ∧ e.loc ≠ .mark .enable
def EvS (p : Pl) (ph : Ph) (es : Array Event) : Prop :=
 ((ph = .ld ∨ ph = .ud) → es = #[Go.ConcR.mk .disable]) ∧ (ph = .le → es = #[Go.ConcR.mk .enable]) ∧ (ph ≠ .ld → ph ≠ .ud → ph ≠ .le → (∀ e ∈ es, e = Go.ConcR.mk .disable ∨ e = Go.ConcR.mk .enable ∨ ∃ a x, e = ⟨.cell a, x, true⟩ ∧ a.block = p.Mu ∧ a.off < 2) ∧ deafBehind 1 es = 1)
def Ph.mu : Ph → Bool | .al | .la | .ur | .ue => false | _ => true
def Ph.deaf : Ph → Nat | .al | .ld | .la | .ur | .ud => 0 | _ => 1
def waitsP (ph : Ph) (m : Bool) : Prop := (∃ sv, ph = .s1 sv) ∧ m = false
section
variable (p : Pl) (n i : Nat)
abbrev SRH := SR (EnvH p n i none false) p.Wg
structure StpH (Nx : List Int → Ph → List Int → Goroutine → World → Prop) (rest : List Int) (ph : Ph) (c : List Int) (g : Goroutine) (w : World) : Prop where
 run : g.status = .running
 offers : g.offers = none
 wakes : (∃ h, ph = .us h) → mayWake Try.prog g = true
 cnt : ph = .ur → AlIs p c w
 al : ph = .al → ∃ g' ob es, stepG Try.prog false g w = .go g' (w.alloc ob) es ∧ (∀ e ∈ es, SilE p (w.heap.size + 1) e) ∧ RunsH p n i (some w.heap.size) false (Nx rest .ld []) g' (w.alloc ob)
 la : ph = .la → ∀ x : List Int, AlIs p x w → x.length = n → ∃ g', stepG Try.prog false g w = .go g' w #[Go.ConcR.mk (.acquire (mA p.Mu))] ∧ RunsH p n i none true (Nx rest.tail .ur (inc x (rest.headD 0))) g' w
 ur : ph = .ur → ∃ g', stepG Try.prog false g w = .go g' w #[Go.ConcR.mk (.releaseMerge (mA p.Mu))] ∧ RunsH p n i none false (Nx rest .ud []) g' w
 ue : ph = .ue → ∃ g', stepG Try.prog false g w = .go g' w #[Go.ConcR.mk .enable] ∧ (rest ≠ [] → RunsH p n i none false (Nx rest .al []) g' w) ∧ (rest = [] → RunsH p n i none false (SRH p n i) g' w)
 mu : ph.mu = true → ∀ wd m, MuIs p n w wd m → okw (st ph) wd m = true → (waitsP ph m → stepG Try.prog false g w = .go { g with status := .blocked } w #[]) ∧
  (¬ waitsP ph m → ∃ ph' wd' m', Mv ph wd m ph' wd' m' ∧ ∃ g' w' es, stepG Try.prog false g w = .go g' w' es ∧ MuIs p n w' wd' m' ∧ EffH p w w' ∧ EvS p ph es ∧ RunsH p n i none false (Nx rest ph' []) g' w')
def AtH : Nat → List Int → Ph → List Int → Goroutine → World → Prop
 | 0, _, _, _, _, _ => True
 | k + 1, rest, ph, c, g, w => StpH p n i (AtH k) rest ph c g w
end
section
variable {p : Pl} {n i : Nat} {o : Option Nat} {h : Bool} {w w₁ w₂ : World}
theorem EnvH.trans (a : EnvH p n i o h w w₁) (b : EnvH p n i o h w₁ w₂) : EnvH p n i o h w w₂ :=
 ⟨fun x hx => (b.low x hx).trans (a.low x hx), fun x hx => (b.own x hx).trans (a.own x hx), fun l => b.live (a.live l), fun e => (b.crit e).trans (a.crit e), fun l => b.wg (a.wg l)⟩
theorem EnvH.refl (w : World) : EnvH p n i o h w w := ⟨fun _ _ => rfl, fun _ _ => rfl, id, fun _ => rfl, id⟩
theorem EnvH.weak (a : EnvH p n i o h w w₁) : EnvH p n i none false w w₁ := ⟨a.low, fun _ e => (by cases e), a.live, fun e => (by cases e), a.wg⟩
theorem DoH.refl (w : World) : DoH p n i o h w w #[] := ⟨rfl, rfl, rfl, rfl, fun _ _ _ => rfl, id, fun e he => by simp at he⟩
theorem EffH.refl (w : World) : EffH p w w := ⟨rfl, rfl, rfl, .refl _, fun _ _ => rfl⟩
theorem MuIs.cellSt {wd : Wd} {m : Bool} (a : MuIs p n w wd m) : w.cell? (mA p.Mu) = some (.int .i32 wd.val) := by unfold MuIs muO at a; simp [World.cell?, mA, a]
theorem MuIs.cellSm {wd : Wd} {m : Bool} (a : MuIs p n w wd m) : w.cell? (mS p.Mu) = some (.int .u32 (if m then 1 else 0)) := by unfold MuIs muO at a; simp [World.cell?, mS, a]
theorem MuIs.cellAl {wd : Wd} {m : Bool} (a : MuIs p n w wd m) : w.cell? ⟨p.Mu, 2, none⟩ = some (.slice (some ⟨p.Al, 0, none⟩) n n) := by unfold MuIs muO at a; simp [World.cell?, a]
theorem MuIs.thaw {wd : Wd} {m : Bool} (a : MuIs p n w wd m) (off : Nat) : w.frozen? ⟨p.Mu, off, none⟩ = false := by unfold MuIs muO at a; simp [World.frozen?, a]
theorem MuIs.setSt {wd : Wd} {m : Bool} (a : MuIs p n w wd m) (wd' : Wd) : MuIs p n (w.setCell (mA p.Mu) (.int .i32 wd'.val)) wd' m := by
 unfold MuIs muO at a ⊢
 obtain ⟨hlt, he⟩ := Array.getElem?_eq_some_iff.1 a
 unfold World.setCell mA
 simp [hlt, Array.getElem_modify, he]
theorem MuIs.setSm {wd : Wd} {m : Bool} (a : MuIs p n w wd m) (m' : Bool) : MuIs p n (w.setCell (mS p.Mu) (.int .u32 (if m' then 1 else 0))) wd m' := by
 unfold MuIs muO at a ⊢
 obtain ⟨hlt, he⟩ := Array.getElem?_eq_some_iff.1 a
 unfold World.setCell mS
 simp [hlt, Array.getElem_modify, he]
theorem MuIs.inj {wd wd' : Wd} {m m' : Bool} (a : MuIs p n w wd m) (b : MuIs p n w wd' m') : wd' = wd ∧ m' = m := by
 have e := a.symm.trans b
 simp only [muO, Option.some.injEq, Obj.cells.injEq] at e
 have e1 := congrArg (fun x : Array Value => x.toList) e.1
 simp at e1
 refine ⟨(Wd.val_inj e1.1).symm, ?_⟩
 have := e1.2
 revert this
 cases m <;> cases m' <;> simp
theorem EffH.set (a : Addr) (v : Value) (ha : a.block = p.Mu) : EffH p w (w.setCell a v) :=
 have A := aside_setCell w a v
 ⟨A.tape, A.output, A.size, by rw [A.os]; exact .refl _, fun b h => A.block b (by rw [ha]; exact h)⟩
theorem EffH.later : EffH p w w.later := ⟨rfl, rfl, rfl, ⟨w.tick, rfl⟩, fun _ _ => rfl⟩
theorem EffH.asked : EffH p w w.asked := ⟨rfl, rfl, rfl, .refl _, fun _ _ => rfl⟩
theorem EffH.live (A : p.Ok) (e : EffH p w w₁) {wd : Wd} {m : Bool} (a : MuIs p n w₁ wd m) (l : LiveH p n w) : LiveH p n w₁ :=
 ⟨let ⟨a, b, c⟩ := l.wg; ⟨a, b, (e.block _ A.wm).trans c⟩, ⟨_, _, a⟩, let ⟨c, h1, h2⟩ := l.al; ⟨c, h1, (e.block _ A.ma.symm).trans h2⟩⟩
structure FW (p : Pl) (n i : Nat) (W : World) (w : World) : Prop where
 live : LiveH p n w
 low : ∀ b, p.Rb i b → w.heap[b]? = W.heap[b]?
variable {W : World}
theorem FW.env (a : FW p n i W w) (e : EnvH p n i o h w w₁) : FW p n i W w₁ := ⟨e.live a.live, fun b hb => (e.low b hb).trans (a.low b hb)⟩
theorem FW.eff (A : p.Ok) (a : FW p n i W w) (e : EffH p w w₁) {wd : Wd} {m : Bool} (u : MuIs p n w₁ wd m) : FW p n i W w₁ := ⟨e.live A u a.live, fun b hb => (e.block b (A.rb i b hb).2.1).trans (a.low b hb)⟩
theorem FW.rule : Rule (EnvH p n i o h) (DoH p n i o h) (FW p n i W) := ⟨fun _ _ a e => a.env e, fun w _ => DoH.refl w⟩
structure FC (p : Pl) (n i : Nat) (W : World) (c : List Int) (w : World) : Prop extends FW p n i W w where
 cnt : AlIs p c w
theorem FC.rule {c : List Int} : Rule (EnvH p n i o true) (DoH p n i o true) (FC p n i W c) := ⟨fun _ _ a e => ⟨a.toFW.env e, (e.crit rfl).trans a.cnt⟩, fun w _ => DoH.refl w⟩
end
section
variable {p : Pl} {n i : Nat} {Nx : List Int → Ph → List Int → Goroutine → World → Prop} {rest c : List Int} {ph : Ph} {g : Goroutine} {w : World}
theorem StpH.at_mu (hm : ph.mu = true) (hs : ∀ sv, ph ≠ .s1 sv) (hr : g.status = .running) (ho : g.offers = none) (hw : (∃ h, ph = .us h) → mayWake Try.prog g = true)
  (h : ∀ wd m, MuIs p n w wd m → okw (st ph) wd m = true → ∃ ph' wd' m', Mv ph wd m ph' wd' m' ∧ ∃ g' w' es, stepG Try.prog false g w = .go g' w' es ∧ MuIs p n w' wd' m' ∧ EffH p w w' ∧ EvS p ph es ∧ RunsH p n i none false (Nx rest ph' []) g' w') : StpH p n i Nx rest ph c g w :=
 ⟨hr, ho, hw, fun e => (by subst e; cases hm), fun e => (by subst e; cases hm), fun e => (by subst e; cases hm), fun e => (by subst e; cases hm), fun e => (by subst e; cases hm),
   fun _ wd m a b => ⟨fun ⟨⟨sv, e⟩, _⟩ => absurd e (hs sv), fun _ => h wd m a b⟩⟩
theorem StpH.at_s1 {sv : Bool} (hr : g.status = .running) (ho : g.offers = none) (h0 : ∀ wd, MuIs p n w wd false → stepG Try.prog false g w = .go { g with status := .blocked } w #[])
  (h : ∀ wd, MuIs p n w wd true → okw .Q wd true = true → ∃ ph' wd' m', Mv (.s1 sv) wd true ph' wd' m' ∧ ∃ g' w' es, stepG Try.prog false g w = .go g' w' es ∧ MuIs p n w' wd' m' ∧ EffH p w w' ∧ EvS p (.s1 sv) es ∧ RunsH p n i none false (Nx rest ph' []) g' w') : StpH p n i Nx rest (.s1 sv) c g w :=
 ⟨hr, ho, by simp, by simp, by simp, by simp, by simp, by simp,
   fun _ wd m a b => ⟨fun ⟨_, e⟩ => h0 wd (e ▸ a), fun hn => by
    cases m with
    | false => exact absurd ⟨⟨sv, rfl⟩, rfl⟩ hn
    | true => exact h wd a b⟩⟩
theorem StpH.at_al (hr : g.status = .running) (ho : g.offers = none) (h : ∃ g' ob es, stepG Try.prog false g w = .go g' (w.alloc ob) es ∧ (∀ e ∈ es, SilE p (w.heap.size + 1) e) ∧ RunsH p n i (some w.heap.size) false (Nx rest .ld []) g' (w.alloc ob)) : StpH p n i Nx rest .al c g w :=
 ⟨hr, ho, by simp, by simp, fun _ => h, by simp, by simp, by simp, by simp [Ph.mu]⟩
theorem StpH.at_la (hr : g.status = .running) (ho : g.offers = none) (h : ∀ x : List Int, AlIs p x w → x.length = n → ∃ g', stepG Try.prog false g w = .go g' w #[Go.ConcR.mk (.acquire (mA p.Mu))] ∧ RunsH p n i none true (Nx rest.tail .ur (inc x (rest.headD 0))) g' w) : StpH p n i Nx rest .la c g w :=
 ⟨hr, ho, by simp, by simp, by simp, fun _ => h, by simp, by simp, by simp [Ph.mu]⟩
theorem StpH.at_ur (hr : g.status = .running) (ho : g.offers = none) (hc : AlIs p c w) (h : ∃ g', stepG Try.prog false g w = .go g' w #[Go.ConcR.mk (.releaseMerge (mA p.Mu))] ∧ RunsH p n i none false (Nx rest .ud []) g' w) : StpH p n i Nx rest .ur c g w :=
 ⟨hr, ho, by simp, fun _ => hc, by simp, by simp, fun _ => h, by simp, by simp [Ph.mu]⟩
theorem StpH.at_ue (hr : g.status = .running) (ho : g.offers = none) (h : ∃ g', stepG Try.prog false g w = .go g' w #[Go.ConcR.mk .enable] ∧ (rest ≠ [] → RunsH p n i none false (Nx rest .al []) g' w) ∧ (rest = [] → RunsH p n i none false (SRH p n i) g' w)) : StpH p n i Nx rest .ue c g w :=
 ⟨hr, ho, by simp, by simp, by simp, by simp, by simp, fun _ => h, by simp [Ph.mu]⟩
theorem bk_none : (∀ e ∈ (#[] : Array Event), e = Go.ConcR.mk .disable ∨ e = Go.ConcR.mk .enable ∨ ∃ a x, e = ⟨.cell a, x, true⟩ ∧ a.block = p.Mu ∧ a.off < 2) ∧ deafBehind 1 #[] = 1 := ⟨by simp, rfl⟩
theorem bk_r {a : Addr} (ha : a.block = p.Mu) (h : a.off < 2) : (∀ e ∈ #[rd a], e = Go.ConcR.mk .disable ∨ e = Go.ConcR.mk .enable ∨ ∃ a x, e = ⟨.cell a, x, true⟩ ∧ a.block = p.Mu ∧ a.off < 2) ∧ deafBehind 1 #[rd a] = 1 :=
 ⟨fun e he => by simp at he; subst he; exact .inr (.inr ⟨a, _, rfl, ha, h⟩), rfl⟩
theorem bk_rw {a : Addr} (ha : a.block = p.Mu) (h : a.off < 2) : (∀ e ∈ #[rd a, wr a], e = Go.ConcR.mk .disable ∨ e = Go.ConcR.mk .enable ∨ ∃ a x, e = ⟨.cell a, x, true⟩ ∧ a.block = p.Mu ∧ a.off < 2) ∧ deafBehind 1 #[rd a, wr a] = 1 :=
 ⟨fun e he => by simp at he; rcases he with rfl | rfl <;> exact .inr (.inr ⟨a, _, rfl, ha, h⟩), rfl⟩
theorem bk_sem {a : Addr} (ha : a.block = p.Mu) (h : a.off < 2) : (∀ e ∈ semEvents a, e = Go.ConcR.mk .disable ∨ e = Go.ConcR.mk .enable ∨ ∃ a x, e = ⟨.cell a, x, true⟩ ∧ a.block = p.Mu ∧ a.off < 2) ∧ deafBehind 1 (semEvents a) = 1 :=
 ⟨fun e he => by
   simp [semEvents] at he
   rcases he with rfl | rfl | rfl | rfl
   ·exact .inl rfl
   ·exact .inr (.inr ⟨a, _, rfl, ha, h⟩)
   ·exact .inr (.inr ⟨a, _, rfl, ha, h⟩)
   ·exact .inr (.inl rfl), rfl⟩
theorem evS_at {es : Array Event} (h1 : ph ≠ .ld) (h2 : ph ≠ .ud) (h3 : ph ≠ .le) (h : (∀ e ∈ es, e = Go.ConcR.mk .disable ∨ e = Go.ConcR.mk .enable ∨ ∃ a x, e = ⟨.cell a, x, true⟩ ∧ a.block = p.Mu ∧ a.off < 2) ∧ deafBehind 1 es = 1) : EvS p ph es := ⟨fun e => e.elim (fun e => absurd e h1) fun e => absurd e h2, fun e => absurd e h3, fun _ _ _ => h⟩
end
end Go.Proofs.Ytnikfjfcbpeieaa.Hk
end
section
namespace Go.Proofs.Ytnikfjfcbpeieaa.Hk
open Go Go.Conc Go.RowKit Go.Proofs.Ytnikfjfcbpeieaa.Lk
open Go.ConcR (KK wgBlock WgAt stA smA rd wr)
open Go.ConcR.Gen
set_option linter.unusedVariables false
set_option linter.unusedSimpArgs false
theorem x125_n : (Try.f125.name == "runtime.NumGoroutine") = false := by kernel_rfl
theorem x125_b : Try.f125.body.isNone = true := by kernel_rfl
theorem x125_x : Extern.findNext Try.f125 = none := by kernel_rfl
theorem x125_f : Extern.find Try.f125 = some (Extern.Atomic.casT (.int .i32)) := by kernel_rfl
theorem x127_n : (Try.f127.name == "runtime.NumGoroutine") = false := by kernel_rfl
theorem x127_b : Try.f127.body.isNone = true := by kernel_rfl
theorem x127_x : Extern.findNext Try.f127 = none := by kernel_rfl
theorem x127_f : Extern.find Try.f127 = some (Extern.Atomic.update (Op.intArith .add) .i32 true) := by kernel_rfl
theorem x131_n : (Try.f131.name == "runtime.NumGoroutine") = false := by kernel_rfl
theorem x131_b : Try.f131.body.isNone = true := by kernel_rfl
theorem x131_x : Extern.findNext Try.f131 = none := by kernel_rfl
theorem x131_f : Extern.find Try.f131 = some Extern.Sync.canSpin := by kernel_rfl
theorem x132_n : (Try.f132.name == "runtime.NumGoroutine") = false := by kernel_rfl
theorem x132_b : Try.f132.body.isNone = true := by kernel_rfl
theorem x132_x : Extern.findNext Try.f132 = none := by kernel_rfl
theorem x132_f : Extern.find Try.f132 = some (fun _ => pure (.tuple #[])) := by kernel_rfl
theorem x134_n : (Try.f134.name == "runtime.NumGoroutine") = false := by kernel_rfl
theorem x134_b : Try.f134.body.isNone = true := by kernel_rfl
theorem x134_x : Extern.findNext Try.f134 = none := by kernel_rfl
theorem x134_f : Extern.find Try.f134 = some Extern.OsHooks.nano := by kernel_rfl
theorem x134_q : Try.f134.norace = true := by kernel_rfl
theorem x135_n : (Try.f135.name == "runtime.NumGoroutine") = false := by kernel_rfl
theorem x135_b : Try.f135.body.isNone = true := by kernel_rfl
theorem x135_x : Extern.findNext Try.f135 = none := by kernel_rfl
theorem x135_f : Extern.find Try.f135 = some Extern.Sync.semacquire := by kernel_rfl
theorem x137_n : (Try.f137.name == "runtime.NumGoroutine") = false := by kernel_rfl
theorem x137_b : Try.f137.body.isNone = true := by kernel_rfl
theorem x137_x : Extern.findNext Try.f137 = none := by kernel_rfl
theorem x137_f : Extern.find Try.f137 = some Extern.Sync.semrelease := by kernel_rfl
section
variable {main : Bool} {b : Frame} {a : Act} {kk : List Item} {cs : List Frame} {w : World} {ops : Array Oper} {i : Nat} {rest : List Nat} {o : Oper}
theorem stepG_loadQ {x : Operand} (ho : ops[i]? = some o) (hw : Region.wanted o (yielded ops a.tmps) = true) (hk : b.kind ≠ .early) (hop : o.op = .load 21 x)
  {ad : Addr} {v : Int} (hx : a.eval x = .pointer (some ad)) (hc : w.cell? ad = some (.int .i32 v)) (hq : (Try.prog.funcs[b.fn]?).any (·.norace) = true) :
  stepG Try.prog main (G (b.at a (.inRegion ops (i :: rest) :: kk)) cs) w = .go (G (b.at (a.put o.dst (.int .i32 v)) (.inRegion ops rest :: kk)) cs) w #[] := by
 have hr : (execOp a.eval o).run Try.prog w = .ok (.value (.int .i32 v)) w := by
  unfold execOp
  simp only [hop, hx]
  simp [go_sem, hc]
 have he : (execOp a.eval o).events Try.prog w #[] = #[⟨.cell ad, false, false⟩] := by
  unfold execOp
  simp only [hop, hx]
  simp [go_sem, hc]
 rw [stepG_value ho hw hk hr]
 unfold listed
 rw [he, seen_def, hq]
 simp [seenStep]
end
section
variable {p : Pl} {n i : Nat} {W : World} {todo : List Int} {b : Frame} {cs : List Frame} {N : Nat} {ds : List Deferred} {ρ : Rho} {ops : Array Oper} {j : Nat} {rest : List Nat} {o : Oper} {kk : List Item} {c : List Int} {d : Nat}
abbrev GA (p : Pl) (n i : Nat) (W : World) (todo : List Int) (d : Nat) (ph : Ph) (b : Frame) (cs : List Frame) (N : Nat) (ds : List Deferred) (ρ : Rho) (kk : List Item) : Prop :=
 GE Try.prog false (EnvH p n i none false) (DoH p n i none false) (AtH p n i d todo ph []) (FW p n i W) b cs N ds ρ kk
abbrev GC (p : Pl) (n i : Nat) (W : World) (todo : List Int) (d : Nat) (c x : List Int) (b : Frame) (cs : List Frame) (N : Nat) (ds : List Deferred) (ρ : Rho) (kk : List Item) : Prop :=
 GE Try.prog false (EnvH p n i none true) (DoH p n i none true) (AtH p n i d todo .ur c) (FC p n i W x) b cs N ds ρ kk
theorem GA.stop {ph : Ph} (h : ∀ T : Array Value, T.size = N → Looks ρ T → ∀ d', d' < d → ∀ w, FW p n i W w → StpH p n i (AtH p n i d') todo ph [] (G (b.at ⟨T, ds⟩ kk) cs) w) : GA p n i W todo d ph b cs N ds ρ kk :=
 fun T hT hl => Gs.stop FW.rule fun w hw => by
  rcases d with _ | d
  ·trivial
  ·exact h T hT hl d (Nat.lt_succ_self d) w hw
theorem GA.runs {ph : Ph} {T : Array Value} {dst : Option Tmp} {v : Value} (h : GA p n i W todo d ph b cs N ds (ρ.put dst v) (.inRegion ops rest :: kk)) (hd : dst.all (· < N) = true) (hT : T.size = N) (hl : Looks ρ T) {w : World} (hw : FW p n i W w) :
  RunsH p n i none false (AtH p n i d todo ph []) (G (b.at (Act.put ⟨T, ds⟩ dst v) (.inRegion ops rest :: kk)) cs) w := (GE.put hd hT hl h).runs hw
theorem okN {w : Wd} {m : Bool} (h : okw .N w m = true) : w = .w0 ∨ w = .w1 ∨ w = .w2 ∨ w = .w12 := by revert h; cases w <;> cases m <;> decide
theorem okV {w : Wd} {m : Bool} (h : okw .V w m = true) : w = .w2 ∨ w = .w3 := by revert h; cases w <;> cases m <;> decide
theorem okT {w : Wd} {m : Bool} (h : okw .T w m = true) : w = .w2 ∨ w = .w3 ∨ w = .w12 ∨ w = .w20 := by revert h; cases w <;> cases m <;> decide
theorem okA {w : Wd} {m : Bool} (h : okw .A w m = true) : w = .w12 ∨ w = .w20 := by revert h; cases w <;> cases m <;> decide
theorem okB {w : Wd} {m : Bool} (h : okw .B w m = true) : w = .w20 := by revert h; cases w <;> cases m <;> decide
theorem okH {w : Wd} {m : Bool} (h : okw .H w m = true) : w = .w1 ∨ w = .w3 ∨ w = .w9 ∨ w = .w13 := by revert h; cases w <;> cases m <;> decide
theorem okC {w : Wd} {m : Bool} (h : okw .C w m = true) : w = .w8 := by revert h; cases w <;> cases m <;> decide
theorem okE {w : Wd} {m : Bool} (h : okw .E w m = true) : m = false := by revert h; cases w <;> cases m <;> decide
theorem okF {w : Wd} {m : Bool} (h : okw .F w m = true) : m = false := by revert h; cases w <;> cases m <;> decide
theorem st_dis {ph ph' : Ph} (hp : (ph = .ld ∧ ph' = .l0) ∨ (ph = .ud ∧ ph' = .u0)) (ho : ops[j]? = some o) {ats : Array TypeId} (hop : o.op = .call { callee := .value (.func 93), args := #[], argTypes := ats }) (hw : wantB ops ρ o = some true) (hk : b.kind ≠ .early) (hd : o.dst.all (· < N) = true)
  (h : ∀ d', d' < d → GA p n i W todo d' ph' b cs N ds (ρ.put o.dst (.tuple #[])) (.inRegion ops rest :: kk)) : GA p n i W todo d ph b cs N ds ρ (.inRegion ops (j :: rest) :: kk) :=
 GA.stop fun T hT hl d' hd' w hF => StpH.at_mu (by rcases hp with ⟨rfl, _⟩ | ⟨rfl, _⟩ <;> rfl) (by rcases hp with ⟨rfl, _⟩ | ⟨rfl, _⟩ <;> simp) rfl rfl (by rcases hp with ⟨rfl, _⟩ | ⟨rfl, _⟩ <;> simp) fun wd m hm ok =>
  ⟨ph', wd, m, (by rcases hp with ⟨rfl, rfl⟩ | ⟨rfl, rfl⟩ <;> constructor), _, w, _, stepG_mark0 .disable (by simp) ho (hl.want hw) hk hop Try.func93 x93_n x93_b x93_x x93_f, hm, .refl w,
    ⟨fun _ => rfl, (by rcases hp with ⟨rfl, _⟩ | ⟨rfl, _⟩ <;> simp), (by rcases hp with ⟨rfl, _⟩ | ⟨rfl, _⟩ <;> simp)⟩, (h d' hd').runs hd hT hl hF⟩
theorem st_le (ho : ops[j]? = some o) {ats : Array TypeId} (hop : o.op = .call { callee := .value (.func 94), args := #[], argTypes := ats }) (hw : wantB ops ρ o = some true) (hk : b.kind ≠ .early) (hd : o.dst.all (· < N) = true)
  (h : ∀ d', d' < d → GA p n i W todo d' .la b cs N ds (ρ.put o.dst (.tuple #[])) (.inRegion ops rest :: kk)) : GA p n i W todo d .le b cs N ds ρ (.inRegion ops (j :: rest) :: kk) :=
 GA.stop fun T hT hl d' hd' w hF => StpH.at_mu rfl (by simp) rfl rfl (by simp) fun wd m hm ok =>
  ⟨.la, wd, m, .le, _, w, _, stepG_mark0 .enable (by simp) ho (hl.want hw) hk hop Try.func94 x94_n x94_b x94_x x94_f, hm, .refl w, ⟨by simp, fun _ => rfl, by simp⟩, (h d' hd').runs hd hT hl hF⟩
theorem st_l0 (A : p.Ok) (ho : ops[j]? = some o) {x y z : Operand} {ats : Array TypeId} (hop : o.op = .call { callee := .value (.func 125), args := #[x, y, z], argTypes := ats }) (hx : ev ρ x = some (.pointer (some (mA p.Mu)))) (hy : ev ρ y = some (.int .i32 0)) (hz : ev ρ z = some (.int .i32 1)) (hw : wantB ops ρ o = some true) (hk : b.kind ≠ .early) (hd : o.dst.all (· < N) = true)
  (h0 : ∀ d', d' < d → GA p n i W todo d' .le b cs N ds (ρ.put o.dst (.bool true)) (.inRegion ops rest :: kk)) (h1 : ∀ d', d' < d → GA p n i W todo d' .r0 b cs N ds (ρ.put o.dst (.bool false)) (.inRegion ops rest :: kk)) : GA p n i W todo d .l0 b cs N ds ρ (.inRegion ops (j :: rest) :: kk) :=
 GA.stop fun T hT hl d' hd' w hF => StpH.at_mu rfl (by simp) rfl rfl (by simp) fun wd m hm ok => by
  by_cases hwd : wd = .w0
  ·subst hwd
   have he := EffH.set (w := w) (p := p) (mA p.Mu) (.int .i32 Wd.w1.val) rfl
   exact ⟨.le, .w1, m, .l0, _, _, _, stepG_cas_hit ho (hl.want hw) hk hop Try.func125 x125_n x125_b x125_x .i32 x125_f (hl.ev hx) (hl.ev hy) (hl.ev hz) hm.cellSt (hm.thaw 0), hm.setSt .w1, he, evS_at (by simp) (by simp) (by simp) (bk_rw rfl (by simp [mA])), (h0 d' hd').runs hd hT hl (hF.eff A he (hm.setSt .w1))⟩
  ·exact ⟨.r0, wd, m, .l0' hwd, _, _, _, stepG_cas_miss ho (hl.want hw) hk hop Try.func125 x125_n x125_b x125_x .i32 x125_f (hl.ev hx) (hl.ev hy) (hl.ev hz) hm.cellSt (hm.thaw 0) (fun e => hwd (Wd.val_inj (e.trans (by rfl : (0 : Int) = Wd.w0.val)))), hm, .refl w, evS_at (by simp) (by simp) (by simp) (bk_r rfl (by simp [mA])), (h1 d' hd').runs hd hT hl hF⟩
theorem st_rd {ph : Ph} {aw sv : Bool} {it : Nat} (hp : (ph = .r0 ∧ aw = false ∧ sv = false ∧ it = 0) ∨ (∃ it', ph = .r1 aw sv it' ∧ it' < 4 ∧ it = it' + 1) ∨ ph = .r3 aw sv it) (ho : ops[j]? = some o) {x : Operand} (hop : o.op = .load 21 x) (hx : ev ρ x = some (.pointer (some (mA p.Mu)))) (hw : wantB ops ρ o = some true) (hk : b.kind ≠ .early) (hq : (Try.prog.funcs[b.fn]?).any (·.norace) = true) (hd : o.dst.all (· < N) = true)
  (h : ∀ d', d' < d → ∀ wd : Wd, (aw = false → wd = .w0 ∨ wd = .w1 ∨ wd = .w2 ∨ wd = .w12) → (aw = true → wd = .w2 ∨ wd = .w3) → GA p n i W todo d' (Hk.hd aw sv wd it) b cs N ds (ρ.put o.dst (.int .i32 wd.val)) (.inRegion ops rest :: kk)) : GA p n i W todo d ph b cs N ds ρ (.inRegion ops (j :: rest) :: kk) := by
 have hmu : ph.mu = true := by rcases hp with ⟨rfl, _⟩ | ⟨_, rfl, _⟩ | rfl <;> rfl
 have hs1 : ∀ s, ph ≠ .s1 s := by rcases hp with ⟨rfl, _⟩ | ⟨_, rfl, _⟩ | rfl <;> simp
 have hus : ¬ ∃ h, ph = .us h := by rcases hp with ⟨rfl, _⟩ | ⟨_, rfl, _⟩ | rfl <;> simp
 have hst : st ph = if aw then .V else .N := by rcases hp with ⟨rfl, rfl, _⟩ | ⟨_, rfl, _⟩ | rfl <;> rfl
 have hne : ph ≠ .ld ∧ ph ≠ .ud ∧ ph ≠ .le := by rcases hp with ⟨rfl, _⟩ | ⟨_, rfl, _⟩ | rfl <;> simp
 have hmv : ∀ wd m, Mv ph wd m (Hk.hd aw sv wd it) wd m := fun wd m => by
  rcases hp with ⟨rfl, rfl, rfl, rfl⟩ | ⟨it', rfl, h4, rfl⟩ | rfl
  ·exact .r0
  ·exact .r1 h4
  ·exact .r3
 refine GA.stop fun T hT hl d' hd' w hF => StpH.at_mu hmu hs1 rfl rfl (fun h => absurd h hus) fun wd m hm ok => ?_
 rw [hst] at ok
 refine ⟨_, wd, m, hmv wd m, _, w, _, stepG_loadQ ho (hl.want hw) hk hop (hl.ev hx) hm.cellSt hq, hm, .refl w, evS_at hne.1 hne.2.1 hne.2.2 bk_none, (h d' hd' wd (fun e => ?_) (fun e => ?_)).runs hd hT hl hF⟩
 ·subst e; exact okN ok
 ·subst e; exact okV ok
theorem st_r2 {sv : Bool} (ho : ops[j]? = some o) {x : Operand} (hop : o.op = .load 21 x) (hx : ev ρ x = some (.pointer (some (mA p.Mu)))) (hw : wantB ops ρ o = some true) (hk : b.kind ≠ .early) (hq : (Try.prog.funcs[b.fn]?).any (·.norace) = true) (hd : o.dst.all (· < N) = true)
  (h2 : ∀ d', d' < d → GA p n i W todo d' (Hk.hd true sv .w2 0) b cs N ds (ρ.put o.dst (.int .i32 2)) (.inRegion ops rest :: kk))
  (h3 : ∀ d', d' < d → GA p n i W todo d' (Hk.hd true sv .w3 0) b cs N ds (ρ.put o.dst (.int .i32 3)) (.inRegion ops rest :: kk))
  (hc : ∀ d', d' < d → GA p n i W todo d' (.a1 false) b cs N ds (ρ.put o.dst (.int .i32 12)) (.inRegion ops rest :: kk))
  (hh : ∀ d', d' < d → GA p n i W todo d' (.a1 sv) b cs N ds (ρ.put o.dst (.int .i32 20)) (.inRegion ops rest :: kk)) : GA p n i W todo d (.r2 sv) b cs N ds ρ (.inRegion ops (j :: rest) :: kk) :=
 GA.stop fun T hT hl d' hd' w hF => StpH.at_mu rfl (by simp) rfl rfl (by simp) fun wd m hm ok => by
  have hs := stepG_loadQ (main := false) (cs := cs) (kk := kk) (rest := rest) (a := ⟨T, ds⟩) ho (hl.want hw) hk hop (hl.ev hx) hm.cellSt hq
  have bk := evS_at (p := p) (ph := .r2 sv) (by simp) (by simp) (by simp) bk_none
  rcases okT (show okw .T wd m = true from ok) with rfl | rfl | rfl | rfl
  ·exact ⟨_, _, _, .r22, _, w, _, hs, hm, .refl w, bk, (h2 d' hd').runs hd hT hl hF⟩
  ·exact ⟨_, _, _, .r23, _, w, _, hs, hm, .refl w, bk, (h3 d' hd').runs hd hT hl hF⟩
  ·exact ⟨_, _, _, .r2c, _, w, _, hs, hm, .refl w, bk, (hc d' hd').runs hd hT hl hF⟩
  ·exact ⟨_, _, _, .r2d, _, w, _, hs, hm, .refl w, bk, (hh d' hd').runs hd hT hl hF⟩
theorem st_sq {aw sv : Bool} {wo : Wd} {it : Nat} (hit : it ≤ 4) (A : p.Ok) (ho : ops[j]? = some o) {x : Operand} {ats : Array TypeId} (hop : o.op = .call { callee := .value (.func 131), args := #[x], argTypes := ats }) (hx : ev ρ x = some (.int .i64 it)) (hw : wantB ops ρ o = some true) (hk : b.kind ≠ .early) (hd : o.dst.all (· < N) = true)
  (h0 : ∀ d', d' < d → GA p n i W todo d' (.c2 aw sv wo it) b cs N ds (ρ.put o.dst (.bool false)) (.inRegion ops rest :: kk)) (h1 : it < 4 → ∀ d', d' < d → GA p n i W todo d' (.r1 aw sv it) b cs N ds (ρ.put o.dst (.bool true)) (.inRegion ops rest :: kk)) : GA p n i W todo d (.sq aw sv wo it) b cs N ds ρ (.inRegion ops (j :: rest) :: kk) :=
 GA.stop fun T hT hl d' hd' w hF => StpH.at_mu rfl (by simp) rfl rfl (by simp) fun wd m hm ok => by
  have hm' : (#[x] : Array Operand).map (Act.mk T ds).eval = #[.int .i64 (it : Int)] := by simp [hl.ev hx]
  have bk := evS_at (p := p) (ph := .sq aw sv wo it) (by simp) (by simp) (by simp) bk_none
  by_cases h4 : it < 4
  ·have hs := stepG_canSpin_ask (main := false) (cs := cs) (kk := kk) (rest := rest) (w := w) ho (hl.want hw) hk hop Try.func131 x131_n x131_b x131_x x131_f hm' (by omega)
   have hF' : FW p n i W w.asked := hF.eff A .asked (show MuIs p n w.asked wd m from hm)
   cases hsp : w.spins
   ·rw [hsp] at hs
    exact ⟨_, wd, m, .sq, _, _, _, hs, hm, .asked, bk, (h0 d' hd').runs hd hT hl hF'⟩
   ·rw [hsp] at hs
    exact ⟨_, wd, m, .sp h4, _, _, _, hs, hm, .asked, bk, (h1 h4 d' hd').runs hd hT hl hF'⟩
  ·exact ⟨_, wd, m, .sq, _, _, _, stepG_canSpin_no ho (hl.want hw) hk hop Try.func131 x131_n x131_b x131_x x131_f hm' (by omega), hm, .refl w, bk, (h0 d' hd').runs hd hT hl hF⟩
theorem st_c2 {aw sv : Bool} {wo wn : Wd} {it : Nat} {ph' : Ph} (A : p.Ok) (hmv : ∀ m, Mv (.c2 aw sv wo it) wo m ph' wn m) (ho : ops[j]? = some o) {x y z : Operand} {ats : Array TypeId} (hop : o.op = .call { callee := .value (.func 125), args := #[x, y, z], argTypes := ats }) (hx : ev ρ x = some (.pointer (some (mA p.Mu)))) (hy : ev ρ y = some (.int .i32 wo.val)) (hz : ev ρ z = some (.int .i32 wn.val)) (hw : wantB ops ρ o = some true) (hk : b.kind ≠ .early) (hd : o.dst.all (· < N) = true)
  (h0 : ∀ d', d' < d → GA p n i W todo d' ph' b cs N ds (ρ.put o.dst (.bool true)) (.inRegion ops rest :: kk)) (h1 : ∀ d', d' < d → GA p n i W todo d' (.r3 aw sv it) b cs N ds (ρ.put o.dst (.bool false)) (.inRegion ops rest :: kk)) : GA p n i W todo d (.c2 aw sv wo it) b cs N ds ρ (.inRegion ops (j :: rest) :: kk) :=
 GA.stop fun T hT hl d' hd' w hF => StpH.at_mu rfl (by simp) rfl rfl (by simp) fun wd m hm ok => by
  by_cases hwd : wd = wo
  ·subst hwd
   have he := EffH.set (w := w) (p := p) (mA p.Mu) (.int .i32 wn.val) rfl
   exact ⟨ph', wn, m, hmv m, _, _, _, stepG_cas_hit ho (hl.want hw) hk hop Try.func125 x125_n x125_b x125_x .i32 x125_f (hl.ev hx) (hl.ev hy) (hl.ev hz) hm.cellSt (hm.thaw 0), hm.setSt wn, he, evS_at (by simp) (by simp) (by simp) (bk_rw rfl (by simp [mA])), (h0 d' hd').runs hd hT hl (hF.eff A he (hm.setSt wn))⟩
  ·exact ⟨_, wd, m, .miss hwd, _, _, _, stepG_cas_miss ho (hl.want hw) hk hop Try.func125 x125_n x125_b x125_x .i32 x125_f (hl.ev hx) (hl.ev hy) (hl.ev hz) hm.cellSt (hm.thaw 0) (fun e => hwd (Wd.val_inj e)), hm, .refl w, evS_at (by simp) (by simp) (by simp) (bk_r rfl (by simp [mA])), (h1 d' hd').runs hd hT hl hF⟩
theorem st_t1 {sv : Bool} (A : p.Ok) (ho : ops[j]? = some o) {ats : Array TypeId} (hop : o.op = .call { callee := .value (.func 134), args := #[], argTypes := ats }) (hw : wantB ops ρ o = some true) (hk : b.kind ≠ .early) (hd : o.dst.all (· < N) = true)
  (h : ∀ d', d' < d → ∀ t : Int, GA p n i W todo d' (.s1 sv) b cs N ds (ρ.put o.dst (.int .i64 t)) (.inRegion ops rest :: kk)) : GA p n i W todo d (.t1 sv) b cs N ds ρ (.inRegion ops (j :: rest) :: kk) :=
 GA.stop fun T hT hl d' hd' w hF => StpH.at_mu rfl (by simp) rfl rfl (by simp) fun wd m hm ok =>
  ⟨_, wd, m, .t1, _, _, _, stepG_nanotime ho (hl.want hw) hk hop Try.func134 x134_n x134_b x134_x x134_f x134_q, hm, .later, evS_at (by simp) (by simp) (by simp) bk_none, (h d' hd' _).runs hd hT hl (hF.eff A .later (show MuIs p n w.later wd m from hm))⟩
theorem st_t2 (f : Int → Bool) (A : p.Ok) (ho : ops[j]? = some o) {ats : Array TypeId} (hop : o.op = .call { callee := .value (.func 134), args := #[], argTypes := ats }) (hw : wantB ops ρ o = some true) (hk : b.kind ≠ .early) (hd : o.dst.all (· < N) = true)
  (h : ∀ d', d' < d → ∀ t : Int, GA p n i W todo d' (.r2 (f t)) b cs N ds (ρ.put o.dst (.int .i64 t)) (.inRegion ops rest :: kk)) : GA p n i W todo d .t2 b cs N ds ρ (.inRegion ops (j :: rest) :: kk) :=
 GA.stop fun T hT hl d' hd' w hF => StpH.at_mu rfl (by simp) rfl rfl (by simp) fun wd m hm ok =>
  ⟨_, wd, m, .t2, _, _, _, stepG_nanotime ho (hl.want hw) hk hop Try.func134 x134_n x134_b x134_x x134_f x134_q, hm, .later, evS_at (by simp) (by simp) (by simp) bk_none, (h d' hd' _).runs hd hT hl (hF.eff A .later (show MuIs p n w.later wd m from hm))⟩
theorem st_s1 {sv : Bool} (A : p.Ok) (ho : ops[j]? = some o) {x y z : Operand} {ats : Array TypeId} (hop : o.op = .call { callee := .value (.func 135), args := #[x, y, z], argTypes := ats }) (hx : ev ρ x = some (.pointer (some (mS p.Mu)))) (hw : wantB ops ρ o = some true) (hk : b.kind ≠ .early) (hd : o.dst.all (· < N) = true)
  (h : ∀ d', d' < d → GA p n i W todo d' (if sv then .r2 true else .t2) b cs N ds (ρ.put o.dst (.tuple #[])) (.inRegion ops rest :: kk)) : GA p n i W todo d (.s1 sv) b cs N ds ρ (.inRegion ops (j :: rest) :: kk) :=
 GA.stop fun T hT hl d' hd' w hF => StpH.at_s1 rfl rfl
  (fun wd hm => stepG_semacquire_wait ho (hl.want hw) hop Try.func135 x135_n x135_b x135_x x135_f (by simp [hl.ev hx]) hm.cellSm)
  (fun wd hm ok => by
    have he := EffH.set (w := w) (p := p) (mS p.Mu) (.int .u32 0) rfl
    have hm' := hm.setSm false
    have hs := stepG_semacquire (main := false) (cs := cs) (kk := kk) (rest := rest) (a := ⟨T, ds⟩) ho (hl.want hw) hk hop Try.func135 x135_n x135_b x135_x x135_f (by simp [hl.ev hx]) hm.cellSm (by simp) (hm.thaw 1)
    have bk := evS_at (p := p) (ph := .s1 sv) (by simp) (by simp) (by simp) (bk_sem (a := mS p.Mu) rfl (by simp [mS]))
    have hh := (h d' hd').runs (T := T) hd hT hl (hF.eff A he hm')
    cases sv
    ·exact ⟨_, wd, false, .s1, _, _, _, hs, hm', he, bk, hh⟩
    ·exact ⟨_, wd, false, .s1', _, _, _, hs, hm', he, bk, hh⟩)
theorem st_a1 {s7 : Bool} {dl : Int} (hdl : dl = if s7 then -7 else -11) (A : p.Ok) (ho : ops[j]? = some o) {x y : Operand} {ats : Array TypeId} (hop : o.op = .call { callee := .value (.func 127), args := #[x, y], argTypes := ats }) (hx : ev ρ x = some (.pointer (some (mA p.Mu)))) (hy : ev ρ y = some (.int .i32 dl)) (hw : wantB ops ρ o = some true) (hk : b.kind ≠ .early) (hd : o.dst.all (· < N) = true)
  (h : ∀ d', d' < d → ∀ v : Int, GA p n i W todo d' .le b cs N ds (ρ.put o.dst (.int .i32 v)) (.inRegion ops rest :: kk)) : GA p n i W todo d (.a1 s7) b cs N ds ρ (.inRegion ops (j :: rest) :: kk) :=
 GA.stop fun T hT hl d' hd' w hF => StpH.at_mu rfl (by simp) rfl rfl (by simp) fun wd m hm ok => by
  have hs := stepG_add_atomic (main := false) (cs := cs) (kk := kk) (rest := rest) (a := ⟨T, ds⟩) ho (hl.want hw) hk hop Try.func127 x127_n x127_b x127_x .i32 x127_f (hl.ev hx) (hl.ev hy) hm.cellSt (hm.thaw 0)
  have bk := evS_at (p := p) (ph := .a1 s7) (by simp) (by simp) (by simp) (bk_rw (a := mA p.Mu) rfl (by simp [mA]))
  have fin : ∀ wn : Wd, IntKind.i32.wrap (wd.val + dl) = wn.val → (∀ m, Mv (.a1 s7) wd m .le wn m) → ∃ ph' wd' m', Mv (.a1 s7) wd m ph' wd' m' ∧ ∃ g' w' es, stepG Try.prog false (G (b.at ⟨T, ds⟩ (.inRegion ops (j :: rest) :: kk)) cs) w = .go g' w' es ∧ MuIs p n w' wd' m' ∧ EffH p w w' ∧ EvS p (.a1 s7) es ∧ RunsH p n i none false (AtH p n i d' todo ph' []) g' w' := fun wn e hmv => by
   rw [e] at hs
   have he := EffH.set (w := w) (p := p) (mA p.Mu) (.int .i32 wn.val) rfl
   exact ⟨.le, wn, m, hmv m, _, _, _, hs, hm.setSt wn, he, bk, (h d' hd' _).runs hd hT hl (hF.eff A he (hm.setSt wn))⟩
  cases s7
  ·subst hdl
   rcases okA (show okw .A wd m = true from ok) with rfl | rfl
   ·exact fin .w1 (by decide) fun m => .a1
   ·exact fin .w9 (by decide) fun m => .a1'
  ·subst hdl
   obtain rfl := okB (show okw .B wd m = true from ok)
   exact fin .w13 (by decide) fun m => .a1t
theorem st_la (ho : ops[j]? = some o) {x : Operand} {ats : Array TypeId} (hop : o.op = .call { callee := .value (.func 107), args := #[x], argTypes := ats }) (hx : ev ρ x = some (.pointer (some (mA p.Mu)))) (hw : wantB ops ρ o = some true) (hk : b.kind ≠ .early) (hd : o.dst.all (· < N) = true)
  (h : ∀ d', d' < d → ∀ c : List Int, c.length = n → GC p n i W todo.tail d' (inc c (todo.headD 0)) c b cs N ds (ρ.put o.dst (.tuple #[])) (.inRegion ops rest :: kk)) : GA p n i W todo d .la b cs N ds ρ (.inRegion ops (j :: rest) :: kk) :=
 GA.stop fun T hT hl d' hd' w hF => StpH.at_la rfl rfl fun c hc hn =>
  ⟨_, stepG_markAt .acquire (by simp) ho (hl.want hw) hk hop Try.func107 x107_n x107_b x107_x x107_f (by simp [hl.ev hx]), (GE.put hd hT hl (h d' hd' c hn)).runs ⟨hF, hc⟩⟩
theorem st_ur {c : List Int} (ho : ops[j]? = some o) {x : Operand} {ats : Array TypeId} (hop : o.op = .call { callee := .value (.func 92), args := #[x], argTypes := ats }) (hx : ev ρ x = some (.pointer (some (mA p.Mu)))) (hw : wantB ops ρ o = some true) (hk : b.kind ≠ .early) (hd : o.dst.all (· < N) = true)
  (h : ∀ d', d' < d → GA p n i W todo d' .ud b cs N ds (ρ.put o.dst (.tuple #[])) (.inRegion ops rest :: kk)) : GC p n i W todo d c c b cs N ds ρ (.inRegion ops (j :: rest) :: kk) :=
 fun T hT hl => Gs.stop FC.rule fun w hF => by
  rcases d with _ | d
  ·trivial
  ·exact StpH.at_ur rfl rfl hF.cnt ⟨_, stepG_markAt .releaseMerge (by simp) ho (hl.want hw) hk hop Try.func92 x92_n x92_b x92_x x92_f (by simp [hl.ev hx]), (h d (Nat.lt_succ_self d)).runs hd hT hl hF.toFW⟩
theorem st_u0 (A : p.Ok) (ho : ops[j]? = some o) {x y : Operand} {ats : Array TypeId} (hop : o.op = .call { callee := .value (.func 127), args := #[x, y], argTypes := ats }) (hx : ev ρ x = some (.pointer (some (mA p.Mu)))) (hy : ev ρ y = some (.int .i32 (-1))) (hw : wantB ops ρ o = some true) (hk : b.kind ≠ .early) (hd : o.dst.all (· < N) = true)
  (h : ∀ d', d' < d → ∀ (ph' : Ph) (wn : Wd), (wn = .w0 ∧ ph' = .ue) ∨ (wn = .w2 ∧ ph' = .ue) ∨ (wn = .w8 ∧ ph' = .uc) ∨ (wn = .w12 ∧ ph' = .us true) → GA p n i W todo d' ph' b cs N ds (ρ.put o.dst (.int .i32 wn.val)) (.inRegion ops rest :: kk)) : GA p n i W todo d .u0 b cs N ds ρ (.inRegion ops (j :: rest) :: kk) :=
 GA.stop fun T hT hl d' hd' w hF => StpH.at_mu rfl (by simp) rfl rfl (by simp) fun wd m hm ok => by
  have hs := stepG_add_atomic (main := false) (cs := cs) (kk := kk) (rest := rest) (a := ⟨T, ds⟩) ho (hl.want hw) hk hop Try.func127 x127_n x127_b x127_x .i32 x127_f (hl.ev hx) (hl.ev hy) hm.cellSt (hm.thaw 0)
  have bk := evS_at (p := p) (ph := .u0) (by simp) (by simp) (by simp) (bk_rw (a := mA p.Mu) rfl (by simp [mA]))
  have fin : ∀ (ph' : Ph) (wn : Wd), ((wn = .w0 ∧ ph' = .ue) ∨ (wn = .w2 ∧ ph' = .ue) ∨ (wn = .w8 ∧ ph' = .uc) ∨ (wn = .w12 ∧ ph' = .us true)) → IntKind.i32.wrap (wd.val + -1) = wn.val → (∀ m, Mv .u0 wd m ph' wn m) → ∃ ph' wd' m', Mv .u0 wd m ph' wd' m' ∧ ∃ g' w' es, stepG Try.prog false (G (b.at ⟨T, ds⟩ (.inRegion ops (j :: rest) :: kk)) cs) w = .go g' w' es ∧ MuIs p n w' wd' m' ∧ EffH p w w' ∧ EvS p .u0 es ∧ RunsH p n i none false (AtH p n i d' todo ph' []) g' w' := fun ph' wn hph e hmv => by
   rw [e] at hs
   have he := EffH.set (w := w) (p := p) (mA p.Mu) (.int .i32 wn.val) rfl
   exact ⟨ph', wn, m, hmv m, _, _, _, hs, hm.setSt wn, he, bk, (h d' hd' ph' wn hph).runs hd hT hl (hF.eff A he (hm.setSt wn))⟩
  rcases okH (show okw .H wd m = true from ok) with rfl | rfl | rfl | rfl
  ·exact fin .ue .w0 (by simp) (by decide) fun m => .u1
  ·exact fin .ue .w2 (by simp) (by decide) fun m => .u3
  ·exact fin .uc .w8 (by simp) (by decide) fun m => .u9
  ·exact fin (.us true) .w12 (by simp) (by decide) fun m => .u13
theorem st_uc (A : p.Ok) (ho : ops[j]? = some o) {x y z : Operand} {ats : Array TypeId} (hop : o.op = .call { callee := .value (.func 125), args := #[x, y, z], argTypes := ats }) (hx : ev ρ x = some (.pointer (some (mA p.Mu)))) (hy : ev ρ y = some (.int .i32 8)) (hz : ev ρ z = some (.int .i32 2)) (hw : wantB ops ρ o = some true) (hk : b.kind ≠ .early) (hd : o.dst.all (· < N) = true)
  (h : ∀ d', d' < d → GA p n i W todo d' (.us false) b cs N ds (ρ.put o.dst (.bool true)) (.inRegion ops rest :: kk)) : GA p n i W todo d .uc b cs N ds ρ (.inRegion ops (j :: rest) :: kk) :=
 GA.stop fun T hT hl d' hd' w hF => StpH.at_mu rfl (by simp) rfl rfl (by simp) fun wd m hm ok => by
  obtain rfl := okC (show okw .C wd m = true from ok)
  have he := EffH.set (w := w) (p := p) (mA p.Mu) (.int .i32 Wd.w2.val) rfl
  exact ⟨_, .w2, m, .uc, _, _, _, stepG_cas_hit ho (hl.want hw) hk hop Try.func125 x125_n x125_b x125_x .i32 x125_f (hl.ev hx) (hl.ev hy) (hl.ev hz) hm.cellSt (hm.thaw 0), hm.setSt .w2, he, evS_at (by simp) (by simp) (by simp) (bk_rw rfl (by simp [mA])), (h d' hd').runs hd hT hl (hF.eff A he (hm.setSt .w2))⟩
theorem st_us {hand : Bool} (A : p.Ok) (ho : ops[j]? = some o) {x y z : Operand} {ats : Array TypeId} (hop : o.op = .call { callee := .value (.func 137), args := #[x, y, z], argTypes := ats }) (hx : ev ρ x = some (.pointer (some (mS p.Mu)))) (hw : wantB ops ρ o = some true) (hk : b.kind ≠ .early) (hd : o.dst.all (· < N) = true)
  (h : ∀ d', d' < d → GA p n i W todo d' .ue b cs N ds (ρ.put o.dst (.tuple #[])) (.inRegion ops rest :: kk)) : GA p n i W todo d (.us hand) b cs N ds ρ (.inRegion ops (j :: rest) :: kk) :=
 GA.stop fun T hT hl d' hd' w hF => StpH.at_mu rfl (by simp) rfl rfl (fun _ => mayWake_entry ho hop Try.func137 x137_b) fun wd m hm ok => by
  have hm0 : m = false := by
   cases hand
   ·exact okE ok
   ·exact okF ok
  subst hm0
  have he := EffH.set (w := w) (p := p) (mS p.Mu) (.int .u32 1) rfl
  have hs := stepG_semrelease (main := false) (cs := cs) (kk := kk) (rest := rest) (a := ⟨T, ds⟩) ho (hl.want hw) hk hop Try.func137 x137_n x137_b x137_x x137_f (by simp [hl.ev hx]) hm.cellSm (hm.thaw 1)
  exact ⟨_, wd, true, .us, _, _, _, hs, hm.setSm true, he, evS_at (by simp) (by simp) (by simp) (bk_sem rfl (by simp [mS])), (h d' hd').runs hd hT hl (hF.eff A he (hm.setSm true))⟩
theorem st_ue (ho : ops[j]? = some o) {ats : Array TypeId} (hop : o.op = .call { callee := .value (.func 94), args := #[], argTypes := ats }) (hw : wantB ops ρ o = some true) (hk : b.kind ≠ .early) (hd : o.dst.all (· < N) = true)
  (h0 : todo ≠ [] → ∀ d', d' < d → GA p n i W todo d' .al b cs N ds (ρ.put o.dst (.tuple #[])) (.inRegion ops rest :: kk))
  (h1 : todo = [] → GE Try.prog false (EnvH p n i none false) (DoH p n i none false) (SRH p n i) (FW p n i W) b cs N ds (ρ.put o.dst (.tuple #[])) (.inRegion ops rest :: kk)) : GA p n i W todo d .ue b cs N ds ρ (.inRegion ops (j :: rest) :: kk) :=
 GA.stop fun T hT hl d' hd' w hF => StpH.at_ue rfl rfl ⟨_, stepG_mark0 .enable (by simp) ho (hl.want hw) hk hop Try.func94 x94_n x94_b x94_x x94_f, fun e => (h0 e d' hd').runs hd hT hl hF, fun e => (GE.put hd hT hl (h1 e)).runs hF⟩
end
end Go.Proofs.Ytnikfjfcbpeieaa.Hk
end
