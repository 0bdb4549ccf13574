/- One goroutine's operations in two worlds that part, outside the blocks of 'A', in whatever way, and in the tape and the functions' table: where every value in reach leads to blocks of 'A' alone, what runs through in the one runs through in the other, alike, and touches blocks of 'A' alone. -/
/- The operations of plain code, one by one: they keep to the blocks in reach. -/
/- The operations of plain code, one by one, continued. -/
/- The operations of plain code, one by one, the last. -/
/- The operations of plain code, all: what is asked of an operation's text, and that it keeps to the blocks in reach. -/
/- The operations of plain code that may be handed what lies in the zone: a stretch of whole numbers that is read. -/
/- Plain code: its operations, by their text. -/
/- A step of plain code, in two worlds. -/
/- One goroutine of plain code: if its run comes to the end on every tape, it comes to the end whatever is drawn, step by step ('Tr'): an induction for whoever follows it in company. -/
/- Plain code beside goroutines that only leave: whatever comes to its end alone, whatever is answered ('Tr'), comes to it in company. -/
import Derived.Conc.Beside
import Derived.RunT
import Derived.Conc.Events
import Derived.Conc.MuSpec
import Derived.Conc.Own
import Derived.Calls
section
namespace Go.Proofs.Ytnikfjfcbpeieaa.Lk
open Go Go.Conc
open Go.ConcM (OsLater)
set_option linter.unusedVariables false
set_option linter.unusedSimpArgs false
inductive OkV (A : Nat → Prop) : Value → Prop
 | bool (b : Bool) : OkV A (.bool b)
 | int (k : IntKind) (n : Int) : OkV A (.int k n)
 | string (s : ByteArray) : OkV A (.string s)
 | ptr {a : Option Addr} : (∀ x, a = some x → A x.block) → OkV A (.pointer a)
 | slice {a : Option Addr} {l c : Nat} : (∀ x, a = some x → A x.block) → OkV A (.slice a l c)
 | func {fn : Fn} {fi ca : Array Value} : (∀ v ∈ fi, OkV A v) → (∀ v ∈ ca, OkV A v) → OkV A (.func fn fi ca)
 | nilFunc : OkV A .nilFunc
 | iface {t : TypeId} {v : Value} : OkV A v → OkV A (.iface t v)
 | nilIface : OkV A .nilIface
 | agg {cs : Array Value} : (∀ v ∈ cs, OkV A v) → OkV A (.agg cs)
 | tuple {cs : Array Value} : (∀ v ∈ cs, OkV A v) → OkV A (.tuple cs)
theorem OkV.mono {A A' : Nat → Prop} (h : ∀ b, A b → A' b) {v : Value} (hv : OkV A v) : OkV A' v := by
 induction hv with
 | bool b => exact .bool b
 | int k n => exact .int k n
 | string s => exact .string s
 | ptr ha => exact .ptr fun x e => h _ (ha x e)
 | slice ha => exact .slice fun x e => h _ (ha x e)
 | func _ _ i1 i2 => exact .func i1 i2
 | nilFunc => exact .nilFunc
 | iface _ i => exact .iface i
 | nilIface => exact .nilIface
 | agg _ i => exact .agg i
 | tuple _ i => exact .tuple i
class Zone where
 blk : Option Nat
 lo : Nat
 hi : Nat
def ZIn [Zone] (a : Addr) (n : Nat) : Prop := Zone.blk = some a.block ∧ a.spot = none ∧ Zone.lo ≤ a.off ∧ a.off + n ≤ Zone.hi
inductive ZV [Zone] : Value → Prop
 | ptr {a : Addr} : ZIn a 1 → ZV (.pointer (some a))
 | slice {a : Addr} {l c : Nat} : ZIn a c → l ≤ c → ZV (.slice (some a) l c)
variable [Zone]
def OkO (A : Nat → Prop) : Obj → Prop
 | .cells c _ _ => ∀ v ∈ c, OkV A v
 | .number a _ => A a.block
 | _ => False
omit [Zone] in
theorem OkO.mono {A A' : Nat → Prop} (h : ∀ b, A b → A' b) {o : Obj} (ho : OkO A o) : OkO A' o := by
 cases o <;> first | exact fun v hv => (ho v hv).mono h | exact h _ ho | exact ho.elim
structure Rel (A : Nat → Prop) (w' w : World) : Prop where
 size : w'.heap.size = w.heap.size
 same : ∀ b, A b → w'.heap[b]? = w.heap[b]?
 ok : ∀ (b : Nat) (o : Obj), A b → w'.heap[b]? = some o → OkO A o
 inb : ∀ b, A b → b < w'.heap.size
 os : OsLater w'.os w.os
 output : w'.output = w.output
 z : ∀ b, Zone.blk = some b → w'.heap[b]? = w.heap[b]? ∧ b < w'.heap.size ∧ ¬ A b ∧ ∀ i, Zone.lo ≤ i → i < Zone.hi → ∃ x, w'.cell? ⟨b, i, none⟩ = some (.int .i64 x)
def Mild (h : Halt) : Prop := (∃ v, h = .panic v) ∨ (∃ s, h = .stuck s) ∨ ∃ u, h = .unsupported u ∧ ∀ g, u ≠ .initOrder g
inductive Lock (P : Program) (F : Array Func) (n : Bool) {α : Type} (Q : (Nat → Prop) → α → Prop) : (Nat → Prop) → Sem α → Prop
 | pure {A : Nat → Prop} {a : α} : Q A a → Lock P F n Q A (.pure a)
 | load {A : Nat → Prop} {m : Mode} {a : Addr} {k : Value → Sem α} : A a.block → (∀ v, OkV A v → Lock P F n Q A (k v)) → Lock P F n Q A (.load m a k)
 | store {A : Nat → Prop} {m : Mode} {a : Addr} {v : Value} {k : Sem α} : A a.block → OkV A v → Lock P F n Q A k → Lock P F n Q A (.store m a v k)
 | new {A : Nat → Prop} {o : Obj} {k : Nat → Sem α} : n = true → OkO A o → (∀ A' : Nat → Prop, (∀ b, A b → A' b) → ∀ r, A' r → Lock P F n Q A' (k r)) → Lock P F n Q A (.new o k)
 | loadZ {A : Nat → Prop} {m : Mode} {a : Addr} {k : Value → Sem α} : ZIn a 1 → (∀ x, Lock P F n Q A (k (.int .i64 x))) → Lock P F n Q A (.load m a k)
 | shapeZ {A : Nat → Prop} {r : Nat} {k : Option (TypeId × Nat) → Sem α} : Zone.blk = some r → (∀ s, Lock P F n Q A (k s)) → Lock P F n Q A (.shape r k)
 | shape {A : Nat → Prop} {r : Nat} {k : Option (TypeId × Nat) → Sem α} : A r → (∀ s, Lock P F n Q A (k s)) → Lock P F n Q A (.shape r k)
 | getObj {A : Nat → Prop} {r : Nat} {k : Obj → Sem α} : A r → (∀ o, OkO A o → Lock P F n Q A (k o)) → Lock P F n Q A (.getObj r k)
 | freeze {A : Nat → Prop} {a : Addr} {m : Nat} {k : Sem α} : A a.block → Lock P F n Q A k → Lock P F n Q A (.freeze a m k)
 | frozen {A : Nat → Prop} {a : Addr} {k : Bool → Sem α} : A a.block → (∀ b, Lock P F n Q A (k b)) → Lock P F n Q A (.frozen a k)
 | choose {A : Nat → Prop} {q : Question} {k : Nat → Sem α} : (∀ n', Lock P F n Q A (k n')) → Lock P F n Q A (.choose q k)
 | program {A : Nat → Prop} {k : Program → Sem α} : k { P with funcs := F } = k P → Lock P F n Q A (k P) → Lock P F n Q A (.program k)
 | mark {A : Nat → Prop} {m : Mark} {k : Sem α} : (m = .noRoom ∨ ∃ f, m = .extern f) → Lock P F n Q A k → Lock P F n Q A (.mark m k)
 | halt {A : Nat → Prop} {h : Halt} : Mild h → Lock P F n Q A (.halt h)
section
variable {P : Program} {F : Array Func} {n : Bool} {α β : Type} {Q : (Nat → Prop) → α → Prop} {R : (Nat → Prop) → β → Prop} {A : Nat → Prop}
theorem Lock.mono {s : Sem α} {Q' : (Nat → Prop) → α → Prop} (h : Lock P F n Q A s) (hq : ∀ A' a, (∀ b, A b → A' b) → Q A' a → Q' A' a) : Lock P F n Q' A s := by
 induction h with
 | pure h => exact .pure (hq _ _ (fun _ h => h) h)
 | load h _ ih => exact .load h fun v hv => ih v hv hq
 | store h1 h2 _ ih => exact .store h1 h2 (ih hq)
 | new h1 h2 _ ih => exact .new h1 h2 fun A' hA r hr => ih A' hA r hr fun A2 a h3 => hq A2 a fun b hb => h3 b (hA b hb)
 | loadZ h _ ih => exact .loadZ h fun x => ih x hq
 | shapeZ h _ ih => exact .shapeZ h fun s => ih s hq
 | shape h _ ih => exact .shape h fun s => ih s hq
 | getObj h _ ih => exact .getObj h fun o ho => ih o ho hq
 | freeze h _ ih => exact .freeze h (ih hq)
 | frozen h _ ih => exact .frozen h fun b => ih b hq
 | choose _ ih => exact .choose fun b => ih b hq
 | program h _ ih => exact .program h (ih hq)
 | mark h _ ih => exact .mark h (ih hq)
 | halt h => exact .halt h
theorem Lock.up {s : Sem α} (h : Lock P F false Q A s) : Lock P F n Q A s := by
 induction h with
 | pure h => exact .pure h
 | load h _ ih => exact .load h ih
 | store h1 h2 _ ih => exact .store h1 h2 ih
 | new h1 h2 _ ih => cases h1
 | loadZ h _ ih => exact .loadZ h ih
 | shapeZ h _ ih => exact .shapeZ h ih
 | shape h _ ih => exact .shape h ih
 | getObj h _ ih => exact .getObj h ih
 | freeze h _ ih => exact .freeze h ih
 | frozen h _ ih => exact .frozen h ih
 | choose _ ih => exact .choose ih
 | program h _ ih => exact .program h ih
 | mark h _ ih => exact .mark h ih
 | halt h => exact .halt h
theorem Lock.bind {s : Sem α} {f : α → Sem β} (h : Lock P F false Q A s) (hf : ∀ a, Q A a → Lock P F n R A (f a)) : Lock P F n R A (s >>= f) := by
 show Lock P F n R A (s.bind f)
 induction h with
 | pure h => exact hf _ h
 | load h _ ih => exact .load h fun v hv => ih v hv hf
 | store h1 h2 _ ih => exact .store h1 h2 (ih hf)
 | new h1 h2 _ ih => cases h1
 | loadZ h _ ih => exact .loadZ h fun x => ih x hf
 | shapeZ h _ ih => exact .shapeZ h fun s => ih s hf
 | shape h _ ih => exact .shape h fun s => ih s hf
 | getObj h _ ih => exact .getObj h fun o ho => ih o ho hf
 | freeze h _ ih => exact .freeze h (ih hf)
 | frozen h _ ih => exact .frozen h fun b => ih b hf
 | choose _ ih => exact .choose fun b => ih b hf
 | @program A k h _ ih =>
  refine Lock.program (k := fun p => (k p).bind f) ?_ (ih hf)
  show (k _).bind f = _
  rw [h]
 | mark h _ ih => exact .mark h (ih hf)
 | halt h => exact .halt h
theorem Lock.bindN {s : Sem α} {f : α → Sem β} (h : Lock P F true Q A s) (hf : ∀ A' : Nat → Prop, (∀ b, A b → A' b) → ∀ a, Q A' a → Lock P F true R A' (f a)) : Lock P F true R A (s >>= f) := by
 show Lock P F true R A (s.bind f)
 induction h with
 | pure h => exact hf _ (fun _ h => h) _ h
 | load h _ ih => exact .load h fun v hv => ih v hv hf
 | store h1 h2 _ ih => exact .store h1 h2 (ih hf)
 | new h1 h2 _ ih => exact .new h1 h2 fun A' hA r hr => ih A' hA r hr fun A2 h3 => hf A2 fun b hb => h3 b (hA b hb)
 | loadZ h _ ih => exact .loadZ h fun x => ih x hf
 | shapeZ h _ ih => exact .shapeZ h fun s => ih s hf
 | shape h _ ih => exact .shape h fun s => ih s hf
 | getObj h _ ih => exact .getObj h fun o ho => ih o ho hf
 | freeze h _ ih => exact .freeze h (ih hf)
 | frozen h _ ih => exact .frozen h fun b => ih b hf
 | choose _ ih => exact .choose fun b => ih b hf
 | @program A k h _ ih =>
  refine Lock.program (k := fun p => (k p).bind f) ?_ (ih hf)
  show (k _).bind f = _
  rw [h]
 | mark h _ ih => exact .mark h (ih hf)
 | halt h => exact .halt h
end
omit [Zone] in
theorem EvL.mono {S : Loc → Prop} {B B' : Nat} {e : Event} (h : EvL S B e) (hb : B ≤ B') : EvL S B' e := ⟨h.1, h.2.1, h.2.2.1, MemAct.low_mono hb h.2.2.2⟩
def EvA (A : Nat → Prop) (B : Nat) (e : Event) : Prop := (∀ x, (MemAct.ofEvent e).touch? = some x → ∀ a, x.loc = .cell a → A a.block ∨ Zone.blk = some a.block) ∧ e.loc ≠ .mark .disable ∧ e.loc ≠ .mark .enable ∧ (MemAct.ofEvent e).low B
theorem EvA.evL {A : Nat → Prop} {B : Nat} {e : Event} {S : Nat → Prop} (h : EvA A B e) (hS : ∀ b, S b → ¬ A b ∧ Zone.blk ≠ some b) : EvL (fun l => ∃ a, l = .cell a ∧ S a.block) B e :=
 ⟨fun x hx ⟨a, ha, hs⟩ => absurd (h.1 x hx a ha) fun h => h.elim (hS _ hs).1 (hS _ hs).2, h.2.1, h.2.2.1, h.2.2.2⟩
section
variable {A : Nat → Prop} {w' w : World}
theorem Rel.cell (h : Rel A w' w) {a : Addr} (hA : A a.block) : w'.cell? a = w.cell? a := by simp only [World.cell?, h.same _ hA]
theorem Rel.okCell (h : Rel A w' w) {a : Addr} (hA : A a.block) {v : Value} (e : w'.cell? a = some v) : OkV A v := by
 unfold World.cell? at e
 split at e
 ·rename_i c el fz hb
  have := h.ok _ _ hA hb
  split at e
  ·cases e
  ·exact this v (Array.mem_of_getElem? e)
 ·cases e
theorem Rel.cellZ (h : Rel A w' w) {a : Addr} (hA : Zone.blk = some a.block) : w'.cell? a = w.cell? a := by simp only [World.cell?, (h.z _ hA).1]
theorem Rel.shapeZ (h : Rel A w' w) {r : Nat} (hA : Zone.blk = some r) : w'.shape? r = w.shape? r := by simp only [World.shape?, (h.z r hA).1]
theorem Rel.zCell (h : Rel A w' w) {a : Addr} (hA : ZIn a 1)   : ∃ x, w'.cell? a = some (.int .i64 x) := by
 obtain ⟨b, off, spot⟩ := a
 obtain ⟨h1, h2, h3, h4⟩ := hA
 have h2 : spot = none := h2
 subst h2
 exact (h.z b h1).2.2.2 off h3 h4
theorem Rel.zMove {A' : Nat → Prop} {w1' w1 : World} (h : Rel A w' w) (h1 : ∀ b, b < w'.heap.size → ¬ A b → w1'.heap[b]? = w'.heap[b]?) (h2 : ∀ b, b < w.heap.size → ¬ A b → w1.heap[b]? = w.heap[b]?) (hs : w'.heap.size ≤ w1'.heap.size) (hA : ∀ b, A' b → A b ∨ w'.heap.size ≤ b) :
  ∀ b, Zone.blk = some b → w1'.heap[b]? = w1.heap[b]? ∧ b < w1'.heap.size ∧ ¬ A' b ∧ ∀ i, Zone.lo ≤ i → i < Zone.hi → ∃ x, w1'.cell? ⟨b, i, none⟩ = some (.int .i64 x) := by
 intro b hb
 obtain ⟨k1, k2, k3, k4⟩ := h.z b hb
 have e1 := h1 b k2 k3
 refine ⟨by rw [e1, h2 b (by rw [← h.size]; exact k2) k3]; exact k1, by omega, fun hx => (hA b hx).elim k3 fun h => by omega, fun i h3 h4 => ?_⟩
 obtain ⟨x, h5⟩ := k4 i h3 h4
 exact ⟨x, by rw [← h5]; simp only [World.cell?, e1]⟩
theorem Rel.frozen (h : Rel A w' w) {a : Addr} (hA : A a.block) : w'.frozen? a = w.frozen? a := by simp only [World.frozen?, h.same _ hA]
theorem Rel.shape (h : Rel A w' w) {r : Nat} (hA : A r) : w'.shape? r = w.shape? r := by simp only [World.shape?, h.same r hA]
omit [Zone] in
theorem mem_setIfInBounds {α : Type} {xs : Array α} {i : Nat} {v x : α} (h : x ∈ xs.setIfInBounds i v) : x ∈ xs ∨ x = v := by
 obtain ⟨j, hj⟩ := Array.mem_iff_getElem?.1 h
 by_cases hij : i = j
 ·subst hij
  by_cases hlt : i < xs.size
  ·rw [Array.getElem?_setIfInBounds_self_of_lt hlt] at hj; exact .inr (Option.some.inj hj).symm
  ·rw [Array.getElem?_eq_none (by simp; omega)] at hj; cases hj
 ·rw [Array.getElem?_setIfInBounds_ne hij] at hj
  exact .inl (Array.mem_of_getElem? hj)
theorem Rel.setCell (h : Rel A w' w) {a : Addr} (hA : A a.block) {v : Value} (hv : OkV A v) : Rel A (w'.setCell a v) (w.setCell a v) ∧ ∀ b, ¬ A b → (w.setCell a v).heap[b]? = w.heap[b]? := by
 have far : ∀ (x : World) (b : Nat), ¬ A b → (x.setCell a v).heap[b]? = x.heap[b]? := fun x b hb => by
  have : a.block ≠ b := fun e => hb (e ▸ hA)
  simp only [World.setCell, Array.getElem?_modify]; simp [this]
 refine ⟨⟨by simp [World.setCell, h.size], fun b hb => ?_, fun b o hb e => ?_, fun b hb => ?_, h.os, h.output, h.zMove (fun b _ hb => far w' b hb) (fun b _ hb => far w b hb) (by simp [World.setCell]) fun b hb => .inl hb⟩, fun b hb => ?_⟩
 ·simp only [World.setCell, Array.getElem?_modify, h.same b hb]
 ·simp only [World.setCell, Array.getElem?_modify] at e
  split at e
  ·obtain ⟨o', ho, rfl⟩ := Option.map_eq_some_iff.1 e
   have := h.ok _ _ hb ho
   cases o' with
   | cells c el fz =>
    intro x hx
    change x ∈ (if a.spot.isSome then c else c.setIfInBounds a.off v) at hx
    split at hx
    ·exact this x hx
    ·rcases mem_setIfInBounds hx with hx | rfl
     ·exact this x hx
     ·exact hv
   | _ => exact this
  ·exact h.ok _ _ hb e
 ·simpa [World.setCell] using h.inb b hb
 ·have : a.block ≠ b := fun e => hb (e ▸ hA)
  simp only [World.setCell, Array.getElem?_modify]; simp [this]
theorem Rel.freeze (h : Rel A w' w) {a : Addr} (hA : A a.block) (n : Nat) : Rel A (w'.freeze a n) (w.freeze a n) ∧ ∀ b, ¬ A b → (w.freeze a n).heap[b]? = w.heap[b]? := by
 unfold World.freeze
 split
 ·exact ⟨h, fun _ _ => rfl⟩
 refine ⟨⟨by simp [h.size], fun b hb => ?_, fun b o hb e => ?_, fun b hb => ?_, h.os, h.output, h.zMove (fun b _ hb => ?_) (fun b _ hb => ?_) (by simp) fun b hb => .inl hb⟩, fun b hb => ?_⟩
 rotate_left 3
 ·have : a.block ≠ b := fun e => hb (e ▸ hA)
  simp only [Array.getElem?_modify]; simp [this]
 ·have : a.block ≠ b := fun e => hb (e ▸ hA)
  simp only [Array.getElem?_modify]; simp [this]
 rotate_left 1
 ·simp only [Array.getElem?_modify, h.same b hb]
 ·simp only [Array.getElem?_modify] at e
  split at e
  ·obtain ⟨o', ho, rfl⟩ := Option.map_eq_some_iff.1 e
   have := h.ok _ _ hb ho
   cases o' <;> exact this
  ·exact h.ok _ _ hb e
 ·simpa using h.inb b hb
 ·have : a.block ≠ b := fun e => hb (e ▸ hA)
  simp only [Array.getElem?_modify]; simp [this]
theorem Rel.push (h : Rel A w' w) {o : Obj} (ho : OkO A o) : Rel (fun b => A b ∨ b = w'.heap.size) { w' with heap := w'.heap.push o } { w with heap := w.heap.push o } := by
 refine ⟨by simp [h.size], fun b hb => ?_, fun b o' hb e => ?_, fun b hb => ?_, h.os, h.output, h.zMove (fun b hb _ => Array.getElem?_push_lt hb ▸ (Array.getElem?_eq_getElem hb).symm ▸ rfl) (fun b hb _ => Array.getElem?_push_lt hb ▸ (Array.getElem?_eq_getElem hb).symm ▸ rfl) (by simp) fun b hb => hb.imp id fun e => by omega⟩
 ·simp only [Array.getElem?_push, h.size]
  split
  ·rfl
  ·rcases hb with hb | hb
   ·exact h.same b hb
   ·exact absurd (hb.trans h.size) (by omega)
 ·simp only [Array.getElem?_push] at e
  split at e
  ·cases e; exact ho.mono fun _ => .inl
  ·rcases hb with hb | hb
   ·exact (h.ok _ _ hb e).mono fun _ => .inl
   ·exact absurd hb (by omega)
 ·simp only [Array.size_push]
  rcases hb with hb | hb
  ·have := h.inb b hb; omega
  ·omega
theorem Rel.tape (h : Rel A w' w) (T T2 : Nat → Question → Nat) (d d2 : Nat) : Rel A { w' with tape := T, drawn := d } { w with tape := T2, drawn := d2 } := ⟨h.size, h.same, h.ok, h.inb, h.os, h.output, fun b hb => h.z b hb⟩
theorem Rel.noCell (h : Rel A w' w) {a : Addr} (hA : A a.block) (what : String) : Mild (w'.noCell a what) := by
 unfold World.noCell
 split
 ·rename_i hb; exact (h.ok _ _ hA hb).elim
 ·exact .inr (.inr ⟨_, rfl, fun g => by simp⟩)
 ·exact .inr (.inl ⟨_, rfl⟩)
theorem Rel.farLoad (h : Rel A w' w) (p : Program) {a : Addr} (hA : A a.block) (at' : Bool) : ∃ x, w'.farLoad p a at' = .error x ∧ Mild x := by
 unfold World.farLoad
 split
 ·rename_i hb; exact (h.ok _ _ hA hb).elim
 ·exact ⟨_, rfl, h.noCell hA _⟩
theorem Rel.farStore (h : Rel A w' w) (p : Program) {a : Addr} (hA : A a.block) (v : Value) (at' : Bool) : ∃ x, w'.farStore p a v at' = .error x ∧ Mild x := by
 unfold World.farStore
 split
 ·rename_i hb; exact (h.ok _ _ hA hb).elim
 ·exact ⟨_, rfl, h.noCell hA _⟩
end
section
variable {P : Program} {F : Array Func} {n : Bool} {α : Type} {Q : (Nat → Prop) → α → Prop} {A : Nat → Prop}
theorem evA_at {a : Addr} {x s : Bool} {B : Nat} (hA : A a.block) (hb : a.block < B) : EvA A B ⟨.cell a, x, s⟩ := by
 refine ⟨fun y hy b hb => ?_, by simp, by simp, hb⟩
 simp [MemAct.ofEvent, MemAct.touch?] at hy
 rw [← hy] at hb
 cases hb
 exact .inl hA
theorem evA_atZ {a : Addr} {x s : Bool} {B : Nat} (hA : Zone.blk = some a.block) (hb : a.block < B) : EvA A B ⟨.cell a, x, s⟩ := by
 refine ⟨fun y hy b hb => ?_, by simp, by simp, hb⟩
 simp [MemAct.ofEvent, MemAct.touch?] at hy
 rw [← hy] at hb
 cases hb
 exact .inr hA
theorem evA_obj {r : Nat} {x s : Bool} {B : Nat} (hb : r < B) : EvA A B ⟨.obj r, x, s⟩ := by
 refine ⟨fun y hy b hb => ?_, by simp, by simp, ?_⟩
 ·cases x <;> cases s <;> simp [MemAct.ofEvent, MemAct.touch?] at hy <;> (rw [← hy] at hb; cases hb)
 ·cases x <;> cases s <;> exact hb
theorem evA_mark {m : Mark} {B : Nat} (h : m = .noRoom ∨ ∃ f, m = .extern f) : EvA A B ⟨.mark m, false, true⟩ := by
 rcases h with rfl | ⟨f, rfl⟩ <;> exact ⟨fun y hy => by simp [MemAct.ofEvent, MemAct.touch?] at hy, by simp, by simp, trivial⟩
omit [Zone] in
theorem store_plain (m : Mode) (a : Addr) (v : Value) (k : Sem α) (p : Program) (w : World) (es : Array Event) : (Sem.store m a v k).runT p w es = (match v with
  | .agg _ | .tuple _ => (.halt (.stuck "store: not the value of one cell") w, es)
  | v => match w.cell? a with
   | some _ => if w.frozen? a then (.halt (.unsupported (.unsafePointer "a write to bytes that a string shares")) w, es) else k.runT p (w.setCell a v) (es.push ⟨.cell a, true, m == .atomic⟩)
   | none => match w.farStore p a v (m == .atomic) with
    | .ok (w, touched) => k.runT p w (es ++ touched.toArray.map (⟨.cell ·, true, m == .atomic⟩))
    | .error h => (.halt h w, es)) := by cases v <;> rfl
theorem sim {s : Sem α} (hl : Lock P F n Q A s) : ∀ (w' w : World) (es' es : Array Event) (a : α) (w1' : World) (es1' : Array Event), Rel A w' w → s.runT { P with funcs := F } w' es' = (.ok a w1', es1') →
  w'.drawn ≤ w1'.drawn ∧ w1'.tape = w'.tape ∧ w'.heap.size ≤ w1'.heap.size ∧ (∀ b, b < w'.heap.size → ¬ A b → w1'.heap[b]? = w'.heap[b]?) ∧
  ((∀ j q, j < w1'.drawn - w'.drawn → w.tape (w.drawn + j) q = w'.tape (w'.drawn + j) q) →
    ∃ (A' : Nat → Prop) (w1 : World) (es1 : Array Event), s.runT P w es = (.ok a w1, es1) ∧ (∀ b, A b → A' b) ∧ (∀ b, A' b → A b ∨ w.heap.size ≤ b) ∧ (∀ b, w.heap.size ≤ b → b < w1.heap.size → A' b) ∧ Q A' a ∧ Rel A' w1' w1 ∧ (w1.os = w.os ∧ w1.output = w.output) ∧ w1.tape = w.tape ∧ w1.drawn = w.drawn + (w1'.drawn - w'.drawn) ∧ w.heap.size ≤ w1.heap.size ∧
     (∀ b, b < w.heap.size → ¬ A b → w1.heap[b]? = w.heap[b]?) ∧ ∀ e ∈ es1, e ∈ es ∨ EvA A' w1.heap.size e) := by
 induction hl with
 | @pure A a hq =>
  intro w' w es' es a w1' es1' hr e
  simp only [Sem.runT, Prod.mk.injEq, Result.ok.injEq] at e
  obtain ⟨⟨rfl, rfl⟩, _⟩ := e
  exact ⟨Nat.le_refl _, rfl, Nat.le_refl _, fun _ _ _ => rfl, fun _ => ⟨A, w, es, rfl, fun _ h => h, fun _ => .inl, fun b h1 h2 => by omega, hq, hr, ⟨rfl, rfl⟩, rfl, by omega, Nat.le_refl _, fun _ _ _ => rfl, fun e he => .inl he⟩⟩
 | @load A m a k hA _ ih =>
  intro w' w es' es x w1' es1' hr e
  simp only [Sem.runT] at e ⊢
  rw [← hr.cell hA]
  cases hc : w'.cell? a with
  | some v =>
   rw [hc] at e
   obtain ⟨i2, i3, i5, i6, i4⟩ := ih v (hr.okCell hA hc) w' w _ (es.push ⟨.cell a, false, m == .atomic⟩) x w1' es1' hr e
   refine ⟨i2, i3, i5, i6, fun hT => ?_⟩
   obtain ⟨A', w1, es1, j1, k1, k2, k4, k3, j2, j8, j3, j4, j5, j7, j6⟩ := i4 hT
   refine ⟨A', w1, es1, j1, k1, k2, k4, k3, j2, j8, j3, j4, j5, j7, fun e he => ?_⟩
   rcases j6 e he with h | h
   ·rcases Array.mem_push.1 h with h | rfl
    ·exact .inl h
    ·exact .inr (evA_at (k1 _ hA) (by have := hr.inb _ hA; have := hr.size; omega))
   ·exact .inr h
  | none =>
   rw [hc] at e
   obtain ⟨y, hy, _⟩ := hr.farLoad { P with funcs := F } hA (m == .atomic)
   rw [hy] at e
   cases e
 | @loadZ A m a k hA _ ih =>
  intro w' w es' es x w1' es1' hr e
  simp only [Sem.runT] at e ⊢
  rw [← hr.cellZ hA.1]
  obtain ⟨v0, hc⟩ := hr.zCell hA
  rw [hc] at e ⊢
  obtain ⟨i2, i3, i5, i6, i4⟩ := ih v0 w' w _ (es.push ⟨.cell a, false, m == .atomic⟩) x w1' es1' hr e
  refine ⟨i2, i3, i5, i6, fun hT => ?_⟩
  obtain ⟨A', w1, es1, j1, k1, k2, k4, k3, j2, j8, j3, j4, j5, j7, j6⟩ := i4 hT
  refine ⟨A', w1, es1, j1, k1, k2, k4, k3, j2, j8, j3, j4, j5, j7, fun e he => ?_⟩
  rcases j6 e he with h | h
  ·rcases Array.mem_push.1 h with h | rfl
   ·exact .inl h
   ·exact .inr (evA_atZ hA.1 (by have := (hr.z _ hA.1).2.1; have := hr.size; omega))
  ·exact .inr h
 | @shapeZ A r k hA _ ih =>
  intro w' w es' es x w1' es1' hr e
  simp only [Sem.runT] at e ⊢
  rw [← hr.shapeZ hA]
  exact ih _ w' w es' es x w1' es1' hr e
 | @store A m a v k hA hv _ ih =>
  intro w' w es' es x w1' es1' hr e
  rw [store_plain] at e ⊢
  split at e
  ·cases e
  ·cases e
  rename_i h1 h2
  rw [← hr.cell hA, ← hr.frozen hA]
  cases hc : w'.cell? a with
  | some u =>
   rw [hc] at e
   dsimp only at e ⊢
   split at e
   ·cases e
   rename_i hfz
   obtain ⟨i2, i3, i5, i6, i4⟩ := ih (w'.setCell a v) (w.setCell a v) _ (es.push ⟨.cell a, true, m == .atomic⟩) x w1' es1' (hr.setCell hA hv).1 e
   have hsz : (w.setCell a v).heap.size = w.heap.size := by simp [World.setCell]
   have hsz' : (w'.setCell a v).heap.size = w'.heap.size := by simp [World.setCell]
   rw [hsz'] at i5 i6
   have hold : ∀ b, ¬ A b → (w'.setCell a v).heap[b]? = w'.heap[b]? := fun b hb => by
    have : a.block ≠ b := fun e => hb (e ▸ hA)
    simp only [World.setCell, Array.getElem?_modify]; simp [this]
   refine ⟨i2, i3, i5, fun b h1 h2 => (i6 b h1 h2).trans (hold b h2), fun hT => ?_⟩
   obtain ⟨A', w1, es1, j1, k1, k2, k4, k3, j2, j8, j3, j4, j5, j7, j6⟩ := i4 hT
   rw [hsz] at j5 j7 k2 k4
   refine ⟨A', w1, es1, by rw [if_neg hfz]; exact j1, k1, k2, k4, k3, j2, j8, j3, j4, j5, fun b h1 h2 => (j7 b h1 h2).trans ((hr.setCell hA hv).2 b h2), fun e he => ?_⟩
   rcases j6 e he with h | h
   ·rcases Array.mem_push.1 h with h | rfl
    ·exact .inl h
    ·exact .inr (evA_at (k1 _ hA) (by have := hr.inb _ hA; have := hr.size; omega))
   ·exact .inr h
  | none =>
   rw [hc] at e
   dsimp only at e
   obtain ⟨y, hy, _⟩ := hr.farStore { P with funcs := F } hA v (m == .atomic)
   rw [hy] at e
   cases e
 | @new A o k _ ho _ ih =>
  intro w' w es' es x w1' es1' hr e
  simp only [Sem.runT] at e ⊢
  obtain ⟨i2, i3, i5, i6, i4⟩ := ih (fun b => A b ∨ b = w'.heap.size) (fun _ => .inl) _ (.inr rfl) _ { w with heap := w.heap.push o } _ es x w1' es1' (hr.push ho) e
  simp only [Array.size_push] at i5 i6
  refine ⟨i2, i3, by omega, fun b h1 h2 => ?_, fun hT => ?_⟩
  ·rw [i6 b (by omega) (by rintro (h | h); exact h2 h; omega), Array.getElem?_push, if_neg (by omega)]
  obtain ⟨A', w1, es1, j1, k1, k2, k4, k3, j2, j8, j3, j4, j5, j7, j6⟩ := i4 hT
  rw [hr.size] at j1
  simp only [Array.size_push] at j5 j7 k2 k4
  refine ⟨A', w1, es1, j1, fun b hb => k1 b (.inl hb), fun b hb => ?_, fun b h1 h2 => ?_, k3, j2, j8, j3, j4, by omega, fun b h1 h2 => ?_, j6⟩
  ·have := hr.size
   rcases k2 b hb with (h | h) | h
   ·exact .inl h
   ·right; omega
   ·right; omega
  ·have := hr.size
   by_cases hb : b = w'.heap.size
   ·exact k1 b (.inr hb)
   ·exact k4 b (by omega) h2
  ·have := hr.size
   rw [j7 b (by omega) (by rintro (h | h); exact h2 h; omega), Array.getElem?_push, if_neg (by omega)]
 | @shape A r k hA _ ih =>
  intro w' w es' es x w1' es1' hr e
  simp only [Sem.runT] at e ⊢
  rw [← hr.shape hA]
  exact ih _ w' w es' es x w1' es1' hr e
 | @getObj A r k hA _ ih2 =>
  intro w' w es' es x w1' es1' hr e
  simp only [Sem.runT] at e ⊢
  rw [← hr.same r hA]
  have hlt := hr.inb r hA
  cases ho : w'.heap[r]? with
  | none => rw [ho] at e; cases e
  | some o =>
   rw [ho] at e
   have hk : ∀ c e f, o ≠ .cells c e f := by rintro c e f rfl; cases e
   have e' : (k o).runT { P with funcs := F } w' (es'.push ⟨.obj r, false, o.isChan⟩) = (.ok x w1', es1') := by cases o <;> first | exact e | exact absurd rfl (hk _ _ _)
   obtain ⟨i2, i3, i5, i6, i4⟩ := ih2 o (hr.ok _ _ hA ho) w' w _ (es.push ⟨.obj r, false, o.isChan⟩) x w1' es1' hr e'
   refine ⟨i2, i3, i5, i6, fun hT => ?_⟩
   obtain ⟨A', w1, es1, j1, k1, k2, k4, k3, j2, j8, j3, j4, j5, j7, j6⟩ := i4 hT
   refine ⟨A', w1, es1, by cases o <;> first | exact j1 | exact absurd rfl (hk _ _ _), k1, k2, k4, k3, j2, j8, j3, j4, j5, j7, fun e he => ?_⟩
   rcases j6 e he with h | h
   ·rcases Array.mem_push.1 h with h | rfl
    ·exact .inl h
    ·exact .inr (evA_obj (by have := hr.size; omega))
   ·exact .inr h
 | @freeze A a m k hA _ ih =>
  intro w' w es' es x w1' es1' hr e
  simp only [Sem.runT] at e ⊢
  have d1 : (w'.freeze a m).drawn = w'.drawn ∧ (w'.freeze a m).tape = w'.tape ∧ (w'.freeze a m).heap.size = w'.heap.size := by unfold World.freeze; split <;> simp
  have d2 : (w.freeze a m).drawn = w.drawn ∧ (w.freeze a m).tape = w.tape ∧ (w.freeze a m).heap.size = w.heap.size ∧ (w.freeze a m).os = w.os ∧ (w.freeze a m).output = w.output := by unfold World.freeze; split <;> simp
  have d3 : ∀ b, ¬ A b → (w'.freeze a m).heap[b]? = w'.heap[b]? := by
   intro b hb
   unfold World.freeze
   split
   ·rfl
   ·have : a.block ≠ b := fun e => hb (e ▸ hA)
    simp only [Array.getElem?_modify]; simp [this]
  obtain ⟨i2, i3, i5, i6, i4⟩ := ih _ _ es' es x w1' es1' (hr.freeze hA m).1 e
  rw [d1.1] at i2 i4
  rw [d1.2.1] at i3 i4
  rw [d1.2.2] at i5 i6
  rw [d2.1, d2.2.1] at i4
  refine ⟨i2, i3, i5, fun b h1 h2 => (i6 b h1 h2).trans (d3 b h2), fun hT => ?_⟩
  obtain ⟨A', w1, es1, j1, k1, k2, k4, k3, j2, j8, j3, j4, j5, j7, j6⟩ := i4 hT
  rw [d2.2.2.1] at j5 j7 k2 k4
  rw [d2.2.2.2.1, d2.2.2.2.2] at j8
  exact ⟨A', w1, es1, j1, k1, k2, k4, k3, j2, j8, j3, j4, j5, fun b h1 h2 => (j7 b h1 h2).trans ((hr.freeze hA m).2 b h2), j6⟩
 | @frozen A a k hA _ ih =>
  intro w' w es' es x w1' es1' hr e
  simp only [Sem.runT] at e ⊢
  rw [← hr.frozen hA]
  exact ih _ w' w es' es x w1' es1' hr e
 | @choose A q k _ ih =>
  intro w' w es' es x w1' es1' hr e
  simp only [Sem.runT] at e ⊢
  split at e
  ·rename_i hq
   rw [if_pos hq]
   exact ih _ w' w es' es x w1' es1' hr e
  ·rename_i hq
   rw [if_neg hq]
   obtain ⟨i2, i3, i5, i6, i4⟩ := ih _ { w' with drawn := w'.drawn + 1 } { w with drawn := w.drawn + 1 } es' es x w1' es1' (hr.tape w'.tape w.tape _ _) e
   dsimp only at i2 i3 i4 i5 i6
   refine ⟨by omega, i3, i5, i6, fun hT => ?_⟩
   have h0 : w.tape w.drawn q = w'.tape w'.drawn q := by simpa using hT 0 q (by omega)
   rw [h0]
   obtain ⟨A', w1, es1, j1, k1, k2, k4, k3, j2, j8, j3, j4, j5, j7, j6⟩ := i4 (fun j q' hj => by
    have := hT (j + 1) q' (by omega)
    rw [show w.drawn + 1 + j = w.drawn + (j + 1) by omega, show w'.drawn + 1 + j = w'.drawn + (j + 1) by omega]
    exact this)
   exact ⟨A', w1, es1, j1, k1, k2, k4, k3, j2, j8, j3, by omega, j5, j7, j6⟩
 | @program A k hk _ ih =>
  intro w' w es' es x w1' es1' hr e
  simp only [Sem.runT] at e ⊢
  rw [hk] at e
  exact ih w' w es' es x w1' es1' hr e
 | @mark A m k hm _ ih =>
  intro w' w es' es x w1' es1' hr e
  simp only [Sem.runT] at e ⊢
  obtain ⟨i2, i3, i5, i6, i4⟩ := ih w' w _ (es.push ⟨.mark m, false, true⟩) x w1' es1' hr e
  refine ⟨i2, i3, i5, i6, fun hT => ?_⟩
  obtain ⟨A', w1, es1, j1, k1, k2, k4, k3, j2, j8, j3, j4, j5, j7, j6⟩ := i4 hT
  refine ⟨A', w1, es1, j1, k1, k2, k4, k3, j2, j8, j3, j4, j5, j7, fun e he => ?_⟩
  rcases j6 e he with h | h
  ·rcases Array.mem_push.1 h with h | rfl
   ·exact .inl h
   ·exact .inr (evA_mark hm)
  ·exact .inr h
 | halt h =>
  intro w' w es' es x w1' es1' hr e
  cases e
theorem halts {s : Sem α} (hl : Lock P F n Q A s) : ∀ (w' w : World) (es' : Array Event) (h : Halt) (w1' : World) (es1' : Array Event), Rel A w' w → s.runT { P with funcs := F } w' es' = (.halt h w1', es1') → Mild h := by
 have mstuck : ∀ s, Mild (.stuck s) := fun s => .inr (.inl ⟨s, rfl⟩)
 induction hl with
 | pure hq => intro w' w es' h w1' es1' hr e; cases e
 | @load A m a k hA _ ih =>
  intro w' w es' h w1' es1' hr e
  simp only [Sem.runT] at e
  cases hc : w'.cell? a with
  | some v => rw [hc] at e; exact ih v (hr.okCell hA hc) w' w _ _ _ _ hr e
  | none =>
   rw [hc] at e
   obtain ⟨y, hy, hm⟩ := hr.farLoad { P with funcs := F } hA (m == .atomic)
   rw [hy] at e
   cases e
   exact hm
 | @loadZ A m a k hA _ ih =>
  intro w' w es' h w1' es1' hr e
  simp only [Sem.runT] at e
  obtain ⟨v0, hc⟩ := hr.zCell hA
  rw [hc] at e
  exact ih v0 w' w _ _ _ _ hr e
 | @shapeZ A r k hA _ ih =>
  intro w' w es' h w1' es1' hr e
  simp only [Sem.runT] at e
  exact ih _ _ _ _ _ _ _ hr e
 | @store A m a v k hA hv _ ih =>
  intro w' w es' h w1' es1' hr e
  rw [store_plain] at e
  split at e
  ·cases e; exact mstuck _
  ·cases e; exact mstuck _
  cases hc : w'.cell? a with
  | some u =>
   rw [hc] at e
   dsimp only at e
   split at e
   ·cases e; exact .inr (.inr ⟨_, rfl, fun g => by simp⟩)
   ·exact ih _ _ _ _ _ _ ((hr.setCell hA hv).1) e
  | none =>
   rw [hc] at e
   dsimp only at e
   obtain ⟨y, hy, hm⟩ := hr.farStore { P with funcs := F } hA v (m == .atomic)
   rw [hy] at e
   cases e
   exact hm
 | @new A o k _ ho _ ih =>
  intro w' w es' h w1' es1' hr e
  simp only [Sem.runT] at e
  exact ih (fun b => A b ∨ b = w'.heap.size) (fun _ => .inl) _ (.inr rfl) _ _ _ _ _ _ (hr.push ho) e
 | @shape A r k hA _ ih =>
  intro w' w es' h w1' es1' hr e
  simp only [Sem.runT] at e
  exact ih _ _ _ _ _ _ _ hr e
 | @getObj A r k hA _ ih =>
  intro w' w es' h w1' es1' hr e
  simp only [Sem.runT] at e
  split at e
  ·cases e; exact mstuck _
  ·rename_i o _ ho; exact ih _ (hr.ok _ _ hA ho) _ _ _ _ _ _ hr e
  ·cases e; exact mstuck _
 | @freeze A a m k hA _ ih =>
  intro w' w es' h w1' es1' hr e
  simp only [Sem.runT] at e
  exact ih _ _ _ _ _ _ ((hr.freeze hA m).1) e
 | @frozen A a k hA _ ih =>
  intro w' w es' h w1' es1' hr e
  simp only [Sem.runT] at e
  exact ih _ _ _ _ _ _ _ hr e
 | @choose A q k _ ih =>
  intro w' w es' h w1' es1' hr e
  simp only [Sem.runT] at e
  split at e
  ·exact ih _ _ _ _ _ _ _ hr e
  ·exact ih _ _ _ _ _ _ _ (hr.tape w'.tape w.tape _ w.drawn) e
 | @program A k hk _ ih =>
  intro w' w es' h w1' es1' hr e
  simp only [Sem.runT] at e
  rw [hk] at e
  exact ih _ _ _ _ _ _ hr e
 | @mark A m k hm _ ih =>
  intro w' w es' h w1' es1' hr e
  simp only [Sem.runT] at e
  exact ih _ _ _ _ _ _ hr e
 | halt hm =>
  intro w' w es' h w1' es1' hr e
  cases e
  exact hm
end
end Go.Proofs.Ytnikfjfcbpeieaa.Lk
end
section
namespace Go.Proofs.Ytnikfjfcbpeieaa.Lk
open Go Go.Conc
set_option linter.unusedVariables false
set_option linter.unusedSimpArgs false
variable [Zone]
@[reducible] def TQ {α : Type} : (Nat → Prop) → α → Prop := fun _ _ => True
def OkVs (A : Nat → Prop) (xs : Array Value) : Prop := ∀ v ∈ xs, OkV A v
section
variable {P : Program} {F : Array Func} {n : Bool} {A : Nat → Prop} {α β : Type} {Q : (Nat → Prop) → α → Prop}
theorem lk_pure {a : α} (h : Q A a) : Lock P F n Q A (Pure.pure a : Sem α) := Lock.pure h
theorem lk_stuck {s : String} : Lock P F n Q A (stuck s : Sem α) := Lock.halt (.inr (.inl ⟨_, rfl⟩))
theorem lk_unsup {u : Unsupported} (h : ∀ g, u ≠ .initOrder g) : Lock P F n Q A (unsupported u : Sem α) := Lock.halt (.inr (.inr ⟨_, rfl, h⟩))
theorem lk_goPanic {v : Value} : Lock P F n Q A (goPanic v : Sem α) := Lock.halt (.inl ⟨_, rfl⟩)
theorem lk_program {f : Program → Sem α} (h : f { P with funcs := F } = f P) (h2 : Lock P F n Q A (f P)) : Lock P F n Q A (program >>= f) := Lock.program (k := fun p => f p) h h2
theorem lk_choose {q : Question} {f : Nat → Sem α} (h : ∀ i, Lock P F n Q A (f i)) : Lock P F n Q A (choose q >>= f) := Lock.choose (k := fun i => f i) h
theorem lk_shape {r : Nat} {f : Option (TypeId × Nat) → Sem α} (hA : A r) (h : ∀ i, Lock P F n Q A (f i)) : Lock P F n Q A (shape r >>= f) := Lock.shape (k := fun i => f i) hA h
theorem lk_frozen {a : Addr} {f : Bool → Sem α} (hA : A a.block) (h : ∀ i, Lock P F n Q A (f i)) : Lock P F n Q A (frozen a >>= f) := Lock.frozen (k := fun i => f i) hA h
theorem lk_getObj {r : Nat} {f : Obj → Sem α} (hA : A r) (h : ∀ o, OkO A o → Lock P F n Q A (f o)) : Lock P F n Q A (getObj r >>= f) := Lock.getObj (k := fun i => f i) hA h
theorem lk_askRoom {b : Nat} : Lock P F n TQ A (askRoom b) := by
 unfold askRoom
 split
 ·exact Lock.mark (.inl rfl) (Lock.pure trivial)
 ·exact Lock.pure trivial
def Soft : RuntimeError → Prop
 | .bounds .. | .error _ | .plain _ | .nilDeref => True
 | _ => False
theorem lk_runtimePanic {e : RuntimeError} (h : Soft e) : Lock P F n Q A (runtimePanic e : Sem α) := by
 unfold runtimePanic
 refine lk_program ?_ ?_
 ·cases e <;> first | rfl | exact h.elim
 ·cases e <;> first | exact lk_goPanic | exact h.elim
theorem lk_boundsPanic {k : IntKind} {x y : Int} {c : BoundsCode} : Lock P F n Q A (boundsPanic k x y c : Sem α) := by
 unfold boundsPanic
 dsimp only
 split
 ·exact Lock.bind (Q := TQ) (Lock.choose fun _ => Lock.pure trivial) fun s _ => lk_runtimePanic (e := .bounds _ _ _ _) trivial
 ·exact Lock.bind (Q := TQ) (Lock.pure trivial) fun s _ => lk_runtimePanic (e := .bounds _ _ _ _) trivial
theorem lk_info {t : TypeId} : Lock P F n (fun _ i => P.info? t = some i) A (typeInfo t) := by
 unfold typeInfo
 refine lk_program rfl ?_
 split
 ·rename_i i hi; exact lk_pure hi
 ·exact lk_stuck
theorem lk_under {t : TypeId} : Lock P F n (fun _ d => P.underlying t = some d) A (underlying t) := by
 unfold underlying
 refine lk_program rfl ?_
 split
 ·rename_i i hi; exact lk_pure hi
 ·exact lk_stuck
theorem lk_sizeOf {t : TypeId} : Lock P F n TQ A (sizeOf t) := by
 unfold sizeOf
 exact Lock.bind lk_info fun i _ => lk_pure trivial
theorem lk_isAgg {t : TypeId} : Lock P F n TQ A (isAgg t) := by
 unfold isAgg
 exact Lock.bind lk_under fun d _ => by split <;> exact lk_pure trivial
def atomB : Value → Bool
 | .bool _ | .int _ _ | .string _ | .pointer none | .slice none _ _ | .nilFunc | .nilIface => true
 | _ => false
def cleanB : Value → Bool
 | .agg cs => cs.all atomB
 | v => atomB v
omit [Zone] in
theorem okV_atom {v : Value} (h : atomB v = true) : OkV A v := by
 unfold atomB at h
 split at h <;> first | (constructor; done) | (constructor; intro x e; cases e) | cases h
omit [Zone] in
theorem okV_clean {v : Value} (h : cleanB v = true) : OkV A v := by
 unfold cleanB at h
 split at h
 ·exact .agg fun v hv => okV_atom (by simpa using (Array.all_eq_true_iff_forall_mem.1 h) v hv)
 ·exact okV_atom h
def zeroB (P : Program) (t : TypeId) : Bool := match P.info? t with | some i => i.zero.all cleanB | none => true
theorem lk_zero {t : TypeId} (hz : zeroB P t = true) : Lock P F n OkV A (zeroValue t) := by
 unfold zeroValue
 refine Lock.bind lk_info fun i hi => ?_
 unfold zeroB at hz
 rw [hi] at hz
 split
 ·rename_i v hv; dsimp only at hz; rw [hv] at hz; exact lk_pure (okV_clean hz)
 ·exact lk_unsup (by simp)
omit [Zone] in
theorem OkV.cells {v : Value} (h : OkV A v) : OkVs A v.cells := by
 cases h <;> first | exact fun x hx => by (simp [Value.cells] at hx; subst hx; constructor <;> assumption) | skip
 all_goals first
  | (rename_i hc; exact hc)
  | (intro x hx; simp [Value.cells] at hx; subst hx; constructor)
theorem lk_newRow {e : TypeId} {cs : Array Value} (h : OkVs A cs) : Lock P F true (fun A a => A a.block) A (newRow e cs) := by
 unfold newRow newObj
 exact Lock.new rfl h fun A' _ r hr => Lock.pure hr
theorem lk_newVar {e : TypeId} {v : Value} (h : OkV A v) : Lock P F true (fun A a => A a.block) A (newVar e v) := lk_newRow h.cells
omit [Zone] in
theorem add_block (a : Addr) (i : Nat) : (a.add i).block = a.block := by unfold Addr.add; split <;> rfl
theorem lk_load {a : Addr} {m : Mode} (h : A a.block) : Lock P F n OkV A (load a m) := Lock.load h fun v hv => Lock.pure hv
theorem lk_loadCellsFrom {a : Addr} (h : A a.block) : ∀ (m i : Nat) (acc : Array Value), OkVs A acc → Lock P F n OkVs A (loadCellsFrom a i m acc)
 | 0, i, acc, ha => lk_pure ha
 | m + 1, i, acc, ha => by
  unfold loadCellsFrom
  refine Lock.bind (lk_load (by rw [add_block]; exact h)) fun v hv => lk_loadCellsFrom h m _ _ ?_
  intro x hx
  rcases Array.mem_push.1 hx with hx | rfl
  ·exact ha x hx
  ·exact hv
theorem lk_loadCells {a : Addr} {m : Nat} (h : A a.block) : Lock P F n OkVs A (loadCells a m) := lk_loadCellsFrom h m 0 _ (by intro x hx; simp at hx)
theorem lk_storeCells {a : Addr} (h : A a.block) : ∀ (vs : List Value) (i : Nat), (∀ v ∈ vs, OkV A v) → Lock P F n TQ A (storeCells a vs i)
 | [], i, _ => lk_pure trivial
 | v :: vs, i, hv => by
  unfold storeCells
  refine Lock.bind (Q := TQ) (Lock.store (by rw [add_block]; exact h) (hv v (by simp)) (Lock.pure trivial)) fun _ _ => lk_storeCells h vs _ fun x hx => hv x (by simp [hx])
theorem lk_loadVar {t : TypeId} {a : Addr} (h : A a.block) : Lock P F n OkV A (loadVar t a) := by
 unfold loadVar
 refine Lock.bind lk_isAgg fun b _ => ?_
 split
 ·refine Lock.bind lk_sizeOf fun s _ => Lock.bind (lk_loadCells h) fun cs hcs => lk_pure (.agg hcs)
 ·exact lk_load h
theorem lk_storeVar {t : TypeId} {a : Addr} {v : Value} (h : A a.block) (hv : OkV A v) : Lock P F n TQ A (storeVar t a v) := by
 unfold storeVar
 refine Lock.bind lk_sizeOf fun s _ => ?_
 split
 ·exact lk_stuck
 ·exact lk_storeCells h _ _ fun x hx => hv.cells x (by simpa using hx)
theorem lk_part {t : TypeId} {cs : Array Value} {off : Nat} (h : OkVs A cs) : Lock P F n OkV A (part t cs off) := by
 unfold part
 refine Lock.bind lk_isAgg fun b _ => ?_
 split
 ·refine Lock.bind lk_sizeOf fun s _ => lk_pure (.agg fun v hv => h v ?_)
  obtain ⟨i, hi, e⟩ := Array.mem_iff_getElem.1 hv
  rw [Array.getElem_extract] at e
  exact e ▸ Array.getElem_mem _
 ·split
  ·rename_i v hv; exact lk_pure (h v (Array.mem_of_getElem? hv))
  ·exact lk_stuck
theorem lk_asIntOf {v : Value} : Lock P F n TQ A (asIntOf v) := by
 unfold asIntOf
 split
 ·exact lk_pure trivial
 ·exact lk_unsup (by simp)
 ·exact lk_stuck
theorem lk_asInt {v : Value} : Lock P F n TQ A (asInt v) := by
 unfold asInt; exact Lock.bind lk_asIntOf fun _ _ => lk_pure trivial
theorem lk_asBool {v : Value} : Lock P F n TQ A (asBool v) := by
 unfold asBool; split <;> first | exact lk_pure trivial | exact lk_stuck
theorem lk_asAgg {v : Value} (h : OkV A v) : Lock P F n OkVs A (asAgg v) := by
 unfold asAgg
 split
 ·cases h with | agg h => exact lk_pure h
 ·exact lk_stuck
theorem lk_sureAddr {v : Value} (h : OkV A v) : Lock P F n (fun A a => A a.block) A (Instr.sureAddr v) := by
 unfold Instr.sureAddr
 split
 ·cases h with | ptr h => exact lk_pure (h _ rfl)
 ·exact lk_stuck
theorem lk_viewAt {r : Nat} (h : A r) : Lock P F n (fun A o => ∀ x, o = some x → A x.1.block) A (viewAt r) := by
 unfold viewAt
 refine lk_shape h fun s => ?_
 split
 ·exact lk_pure (by simp)
 ·refine lk_getObj h fun o ho => ?_
  split
  ·exact ho.elim
  ·exact lk_pure (by simp)
theorem lk_numberAt {r : Nat} (h : A r) : Lock P F n (fun A o => ∀ x, o = some x → A x.1.block) A (numberAt r) := by
 unfold numberAt
 refine lk_shape h fun s => ?_
 split
 ·exact lk_pure (by simp)
 ·refine lk_getObj h fun o ho => ?_
  split
  ·exact lk_pure (by rintro x e; cases e; exact ho)
  ·exact lk_pure (by simp)
theorem lk_behindNumber {a : Addr} (h : A a.block) : Lock P F n (fun A x => A x.1.block) A (behindNumber a) := by
 unfold behindNumber
 refine Lock.bind (lk_numberAt h) fun o ho => lk_pure ?_
 cases o with
 | none => exact h
 | some x => exact ho x rfl
theorem lk_noView {a : Addr} (h : A a.block) : Lock P F n TQ A (noView a) := by
 unfold noView
 refine Lock.bind (lk_viewAt h) fun o _ => ?_
 split
 ·exact lk_unsup (by simp)
 ·exact lk_pure trivial
omit [Zone] in
theorem byteOfCell_at (P : Program) (F : Array Func) : ∀ (d : Nat) (t : TypeId) (x : Nat), byteOfCell { P with funcs := F } d t x = byteOfCell P d t x
 | 0, _, _ => rfl
 | d + 1, t, x => by
  have ih := byteOfCell_at P F d
  have e : Program.underlying { P with funcs := F } t = P.underlying t := rfl
  have ec : ∀ u, Program.cellsOf { P with funcs := F } u = P.cellsOf u := fun _ => rfl
  have eb : ∀ u, Program.bytesOf { P with funcs := F } u = P.bytesOf u := fun _ => rfl
  simp only [byteOfCell, e, ec, eb, ih]
theorem lk_byteOf {a : Addr} (h : A a.block) : Lock P F n TQ A (byteOf a) := by
 unfold byteOf
 split
 ·exact lk_pure trivial
 ·refine lk_program ?_ ?_
  ·have ec : ∀ u, Program.cellsOf { P with funcs := F } u = P.cellsOf u := fun _ => rfl
   have eb : ∀ u, Program.bytesOf { P with funcs := F } u = P.bytesOf u := fun _ => rfl
   have ed : Program.depth { P with funcs := F } = P.depth := rfl
   simp only [byteOfCell_at, ec, eb, ed]
  refine Lock.bind (lk_noView h) fun _ _ => lk_shape h fun s => ?_
  split
  ·dsimp only
   split
   ·exact lk_pure trivial
   ·split
    ·exact lk_pure trivial
    ·exact lk_stuck
  ·exact lk_stuck
theorem lk_partAt {a : Addr} {c b : Nat} (h : A a.block) : Lock P F n (fun A x => A x.block) A (partAt a c b) := by
 unfold partAt
 refine Lock.bind (lk_byteOf h) fun x _ => Lock.bind (lk_byteOf h) fun y _ => lk_pure ?_
 split <;> exact h
theorem lk_fieldPlace {a : Addr} {f : Field} (h : A a.block) : Lock P F n (fun A x => A x.block) A (fieldPlace a f) := by
 unfold fieldPlace
 refine Lock.bind lk_sizeOf fun s _ => ?_
 split
 ·exact lk_partAt h
 ·exact lk_pure (by rw [add_block]; exact h)
theorem lk_sliceBound {x : Value} {y : Nat} {c : BoundsCode} : Lock P F n TQ A (Instr.sliceBound x y c) := by
 unfold Instr.sliceBound
 refine Lock.bind lk_asIntOf fun ki _ => ?_
 obtain ⟨k, i⟩ := ki
 dsimp only
 split
 ·exact lk_pure trivial
 ·exact lk_boundsPanic
theorem lk_sliceBounds {b : Bool} {l c : Nat} {lo hi mx : Option Value} : Lock P F n TQ A (Instr.sliceBounds b l c lo hi mx) := by
 unfold Instr.sliceBounds
 cases mx <;> cases hi <;> cases lo <;> dsimp only <;>
  repeat' first
   | exact lk_stuck
   | exact lk_pure trivial
   | refine Lock.bind (Q := TQ) lk_sliceBound fun _ _ => ?_
   | refine Lock.bind (Q := TQ) (lk_pure trivial) fun _ _ => ?_
   | refine Lock.bind (Q := TQ) lk_stuck fun _ _ => ?_
theorem lk_slice {t : TypeId} {x : Value} {lo hi mx : Option Value} (h : OkV A x) : Lock P F n OkV A (Instr.slice t x lo hi mx) := by
 unfold Instr.slice
 refine Lock.bind lk_under fun d _ => ?_
 split
 ·dsimp only
  split
  ·exact Lock.bind (Q := TQ) lk_stuck fun _ _ => Lock.bind lk_sliceBounds fun _ _ => lk_pure (.string _)
  ·exact Lock.bind lk_sliceBounds fun _ _ => lk_pure (.string _)
 ·refine Lock.bind lk_sliceBounds fun r _ => Lock.bind lk_sizeOf fun s _ => lk_pure ?_
  cases h with
  | slice h =>
   refine .slice fun x e => ?_
   split at e
   ·exact h x e
   ·obtain ⟨y, hy, rfl⟩ := Option.map_eq_some_iff.1 e
    rw [add_block]; exact h y hy
 ·rename_i arr x' _ _
  refine Lock.bind (Q := fun A a => A a.block) ?_ fun a ha => ?_
  ·unfold asAddr
   split
   ·cases h with | ptr h => exact lk_pure (h _ rfl)
   ·exact lk_runtimePanic trivial
   ·exact lk_stuck
  ·refine Lock.bind lk_under fun d2 _ => ?_
   split
   ·refine Lock.bind lk_sliceBounds fun r _ => Lock.bind lk_sizeOf fun s _ => lk_pure (.slice fun x e => ?_)
    cases e
    split
    ·exact ha
    ·rw [add_block]; exact ha
   ·exact lk_stuck
 ·exact lk_stuck
theorem lk_sliceAt {t : TypeId} {x : Value} {lo hi mx : Option Value} (h : OkV A x) : Lock P F n OkV A (Instr.sliceAt t x lo hi mx) := by
 unfold Instr.sliceAt
 refine Lock.bind lk_under fun d _ => ?_
 split
 ·refine Lock.bind (lk_sureAddr h) fun a ha => Lock.bind lk_sliceBounds fun r _ => Lock.bind lk_sizeOf fun s _ => lk_pure (.slice fun x e => ?_)
  cases e
  split
  ·exact ha
  ·rw [add_block]; exact ha
 ·exact lk_slice h
theorem lk_loadAt {t : TypeId} {v : Value} (h : OkV A v) : Lock P F n OkV A (Instr.loadAt t v) := by
 unfold Instr.loadAt
 exact Lock.bind (lk_sureAddr h) fun a ha => lk_loadVar ha
theorem lk_storeAt {t : TypeId} {v x : Value} (h : OkV A v) (hx : OkV A x) : Lock P F n TQ A (Instr.storeAt t v x) := by
 unfold Instr.storeAt
 exact Lock.bind (lk_sureAddr h) fun a ha => lk_storeVar ha hx
theorem lk_fieldAt {t : TypeId} {v : Value} {f : Nat} (h : OkV A v) : Lock P F n OkV A (Instr.fieldAt t v f) := by
 unfold Instr.fieldAt
 refine Lock.bind lk_under fun d _ => ?_
 split
 ·split
  ·refine Lock.bind (lk_sureAddr h) fun a ha => Lock.bind (lk_fieldPlace ha) fun b hb => lk_pure (.ptr fun x e => ?_)
   cases e; exact hb
  ·exact lk_stuck
 ·exact lk_stuck
theorem lk_indexAt {t : TypeId} {x i : Value} (h : OkV A x) : Lock P F n OkV A (Instr.indexAt t x i) := by
 unfold Instr.indexAt
 refine Lock.bind lk_asIntOf fun ki _ => ?_
 obtain ⟨k, i⟩ := ki
 dsimp only
 refine Lock.bind lk_under fun d _ => ?_
 have tail : ∀ (base : Option Addr) (len : Nat) (elem : TypeId) (d : TypeDesc), (∀ a, base = some a → A a.block) →
   Lock P F n OkV A (match base with
    | some a =>
     if 0 ≤ i ∧ i < (len : Int) then do
      let s ← sizeOf elem
      pure (Value.pointer (some (a.add (i.toNat * s))))
     else
      if (decide (len ≤ 1) && match d with | TypeDesc.array len elem => true | x => false) = true then
       unsupported (Unsupported.noEntry "op/indexAddr.an index out of range at an array of length 0 or 1 (ledger 616)")
      else boundsPanic k i (len : Int) BoundsCode.index
    | none => boundsPanic k i 0 BoundsCode.index) := by
  intro base len elem d hb
  split
  ·split
   ·refine Lock.bind lk_sizeOf fun s _ => lk_pure (.ptr fun x e => ?_)
    cases e
    rw [add_block]; exact hb _ rfl
   ·by_cases hc : (decide (len ≤ 1) && match d with | TypeDesc.array len elem => true | x => false) = true
    ·rw [if_pos hc]; exact lk_unsup (by simp)
    ·rw [if_neg hc]; exact lk_boundsPanic
  ·exact lk_boundsPanic
 split
 ·refine Lock.bind (lk_sureAddr h) fun a ha => Lock.bind (Q := fun A r => ∀ a, r.1 = some a → A a.block) (lk_pure fun x e => by cases e; exact ha) fun r hr => ?_
  exact Lock.bind lk_under fun d _ => tail _ _ _ _ hr
 ·cases h with
  | slice h =>
   refine Lock.bind (Q := fun A r => ∀ a, r.1 = some a → A a.block) (lk_pure h) fun r hr => ?_
   exact Lock.bind lk_under fun d _ => tail _ _ _ _ hr
 ·refine Lock.bind (Q := fun A r => ∀ a, r.1 = some a → A a.block) lk_stuck fun r hr => ?_
  exact Lock.bind lk_under fun d _ => tail _ _ _ _ hr
end
end Go.Proofs.Ytnikfjfcbpeieaa.Lk
end
section
namespace Go.Proofs.Ytnikfjfcbpeieaa.Lk
open Go Go.Conc
set_option linter.unusedVariables false
set_option linter.unusedSimpArgs false
variable [Zone]
section
variable {P : Program} {F : Array Func} {n : Bool} {A : Nat → Prop} {α β : Type} {Q : (Nat → Prop) → α → Prop}
theorem lk_unary {op : UnOp} {x : Value} (hx : OkV A x) : Lock P F n OkV A (Op.unary op x) := by
 unfold Op.unary
 split
 ·unfold Op.intArith; exact lk_pure (.int _ _)
 ·unfold Op.intBits; exact lk_pure (.int _ _)
 ·cases hx
 ·cases hx
 ·exact lk_pure (.bool _)
 ·exact lk_unsup (by simp)
 ·exact lk_unsup (by simp)
 ·exact lk_stuck
theorem lk_twoPlaces {a b : Addr} (ha : A a.block) (hb : A b.block) : Lock P F n TQ A (Op.twoPlaces a b) := by
 unfold Op.twoPlaces
 have tail : Lock P F n TQ A (do pure (← byteOf a, ← byteOf b) : Sem (Nat × Nat)) := Lock.bind (lk_byteOf ha) fun x _ => Lock.bind (lk_byteOf hb) fun y _ => lk_pure trivial
 refine lk_program ?_ ?_
 ·rfl
 dsimp only
 split
 ·exact Lock.bind (Q := TQ) (lk_unsup (by simp)) fun _ _ => tail
 ·exact tail
theorem lk_addrSub {k : IntKind} {a b : Addr} (ha : A a.block) (hb : A b.block) : Lock P F n OkV A (Op.addrSub k a b) := by
 unfold Op.addrSub
 exact Lock.bind (lk_twoPlaces ha hb) fun r _ => lk_pure (.int _ _)
theorem lk_addrCmp {op : BinOp} {a b : Addr} (ha : A a.block) (hb : A b.block) : Lock P F n OkV A (Op.addrCmp op a b) := by
 unfold Op.addrCmp
 refine Lock.bind (lk_twoPlaces ha hb) fun r _ => ?_
 obtain ⟨x, y⟩ := r
 dsimp only
 split <;> first | exact lk_pure (.bool _) | exact lk_unsup (by simp)
theorem lk_addrMod {k : IntKind} {a : Addr} {m : Int} (ha : A a.block) : Lock P F n OkV A (Op.addrMod k a m) := by
 unfold Op.addrMod
 refine lk_shape ha fun s => ?_
 split
 ·refine Lock.bind lk_info fun i _ => ?_
  dsimp only
  split
  ·exact Lock.bind (Q := TQ) (lk_unsup (by simp)) fun _ _ => Lock.bind (lk_byteOf ha) fun x _ => lk_pure (.int _ _)
  ·exact Lock.bind (lk_byteOf ha) fun x _ => lk_pure (.int _ _)
 ·exact lk_unsup (by simp)
omit [Zone] in
theorem cellOfByte_at (P : Program) (F : Array Func) : ∀ (d : Nat) (t : TypeId) (x : Nat), cellOfByte { P with funcs := F } d t x = cellOfByte P d t x
 | 0, _, _ => rfl
 | d + 1, t, x => by
  have ih := cellOfByte_at P F d
  have e : Program.underlying { P with funcs := F } t = P.underlying t := rfl
  have ec : ∀ u, Program.cellsOf { P with funcs := F } u = P.cellsOf u := fun _ => rfl
  have eb : ∀ u, Program.bytesOf { P with funcs := F } u = P.bytesOf u := fun _ => rfl
  simp only [cellOfByte, e, ec, eb, ih]
theorem lk_unsafeAdd {ats : Array TypeId} {t : TypeId} {x y : Value} (hx : OkV A x) : Lock P F n OkV A (Builtin.unsafeAdd_ ats t #[x, y]) := by
 cases x with
 | pointer ptr =>
  unfold Builtin.unsafeAdd_
  dsimp only
  have ha : ∀ a, ptr = some a → A a.block := by cases hx with | ptr h => exact h
  refine Lock.bind lk_asInt fun m _ => ?_
  split
  ·cases ptr with
   | none => exact lk_unsup (by simp)
   | some a =>
    dsimp only
    refine Lock.bind (lk_viewAt (ha a rfl)) fun o _ => ?_
    split
    ·exact Lock.bind (Q := TQ) (lk_unsup (by simp)) fun _ _ => lk_pure hx
    ·exact lk_pure hx
  ·cases ptr with
   | none =>
    dsimp only
    split
    ·exact Lock.bind (Q := TQ) (lk_unsup (by simp)) fun _ _ => lk_unsup (by simp)
    ·exact lk_unsup (by simp)
   | some a =>
    dsimp only
    have tail : ∀ s : Option (TypeId × Nat), Lock P F n OkV A (match s with
      | some (e, cells) => do
       let p ← program
       match cellAtBytes p p.depth e (cells / p.cellsOf e) a.off m with
       | some off => pure (Value.pointer (some { a with off }))
       | none => unsupported (.unsafePointer "Add")
      | _ => unsupported (.unsafePointer "Add")) := by
     intro s
     cases s with
     | none => exact lk_unsup (by simp)
     | some s =>
      obtain ⟨e, cells⟩ := s
      dsimp only
      refine lk_program ?_ ?_
      ·have ec : ∀ u, Program.cellsOf { P with funcs := F } u = P.cellsOf u := fun _ => rfl
       have eb : ∀ u, Program.bytesOf { P with funcs := F } u = P.bytesOf u := fun _ => rfl
       have ed : Program.depth { P with funcs := F } = P.depth := rfl
       simp only [cellAtBytes, byteOfCell_at, ec, eb, ed, cellOfByte_at]
      ·split
       ·exact lk_pure (.ptr fun x e => by cases e; exact ha a rfl)
       ·exact lk_unsup (by simp)
    split
    ·exact Lock.bind (Q := TQ) (lk_unsup (by simp)) fun _ _ => lk_shape (ha a rfl) fun s => tail s
    ·exact lk_shape (ha a rfl) fun s => tail s
 | _ => exact lk_stuck
theorem lk_asNumber {a : Addr} {l : Bool} (ha : A a.block) : Lock P F true OkV A (asNumber a l) := by
 unfold asNumber newObj
 exact Lock.bindN (Q := fun A r => A r) (Lock.new rfl ha fun A' _ r hr => Lock.pure hr) fun A' _ r hr => lk_pure (.ptr fun x e => by cases e; exact hr)
theorem lk_movedNumber {t : TypeId} {x y : Value} (hx : OkV A x) : Lock P F true OkV A (movedNumber t x y) := by
 have plain : Lock P F true OkV A (Builtin.unsafeAdd_ #[] t #[x, y]) := lk_unsafeAdd hx
 have bar : ∀ s : Sem Value, Lock P F true OkV A s → ∀ d : TypeDesc, Lock P F true OkV A (if (match d with | TypeDesc.unsafePointer => true | x => false) = true then (do
    let _ ← (unsupported (.unsafePointer "arithmetic at a pointer's type") : Sem PUnit)
    s) else s) := by
  intro s hs d
  split
  ·exact Lock.bind (Q := TQ) (lk_unsup (by simp)) fun _ _ => hs
  ·exact hs
 cases x with
 | pointer a =>
  cases a with
  | none => exact Lock.bind lk_under fun d _ => bar _ plain d
  | some m =>
   have hm : A m.block := by cases hx with | ptr h => exact h _ rfl
   refine Lock.bind lk_under fun d _ => bar _ ?_ d
   refine Lock.bind (lk_behindNumber hm) fun r hr => ?_
   obtain ⟨a, lost⟩ := r
   dsimp only
   refine Lock.bind (lk_unsafeAdd (.ptr fun x e => by cases e; exact hr)) fun v hv => ?_
   split
   ·cases hv with | ptr h => exact lk_asNumber (h _ rfl)
   ·exact lk_pure hv
 | _ => exact Lock.bind lk_under fun d _ => bar _ plain d
def flat (P : Program) : Nat → TypeId → Bool
 | 0, _ => false
 | d + 1, t => match P.underlying t with
  | some (.int _) | some .string | some .bool => true
  | some (.struct fs) => fs.all fun f => flat P d f.type
  | _ => false
theorem lk_forIn {γ σ : Type} {I : σ → Prop} {f : γ → σ → Sem (ForInStep σ)} : ∀ (l : List γ) (s : σ), I s → (∀ x ∈ l, ∀ s, I s → Lock P F false (fun _ r => match r with | .yield s => I s | .done s => I s) A (f x s)) → Lock P F n (fun _ s => I s) A (forIn l s f)
 | [], s, hs, _ => lk_pure hs
 | x :: l, s, hs, hf => by
  rw [List.forIn_cons]
  refine Lock.bind (hf x (List.mem_cons_self ..) s hs) fun r hr => ?_
  cases r with
  | done s => exact lk_pure hr
  | yield s => exact lk_forIn l s hr fun y hy => hf y (List.mem_cons_of_mem _ hy)
theorem lk_forInA {γ σ : Type} {I : σ → Prop} {f : γ → σ → Sem (ForInStep σ)} (l : Array γ) (s : σ) (hs : I s) (hf : ∀ x ∈ l, ∀ s, I s → Lock P F false (fun _ r => match r with | .yield s => I s | .done s => I s) A (f x s)) : Lock P F n (fun _ s => I s) A (forIn l s f) := by
 rw [← Array.forIn_toList]
 exact lk_forIn _ s hs fun x hx => hf x (by simpa using hx)
omit [Zone] in
theorem alike_at (P : Program) (F : Array Func) : ∀ (m : Nat) (x y : TypeId), Program.alikeButTags { P with funcs := F } m x y = P.alikeButTags m x y
 | 0, _, _ => rfl
 | m + 1, x, y => by
  have ih := alike_at P F m
  have e : ∀ t, Program.underlying { P with funcs := F } t = P.underlying t := fun _ => rfl
  simp only [Program.alikeButTags, e, ih]
omit [Zone] in
theorem stood_at (P : Program) (F : Array Func) (t : TypeId) : Program.stoodInHeld { P with funcs := F } t = P.stoodInHeld t := by
 have e : ∀ t, Program.underlying { P with funcs := F } t = P.underlying t := fun _ => rfl
 have e3 : ∀ t, Program.underlyingId { P with funcs := F } t = P.underlyingId t := fun _ => rfl
 have ed : Program.depth { P with funcs := F } = P.depth := rfl
 simp only [Program.stoodInHeld, Program.stoodInAs, alike_at, e, e3, ed]
theorem lk_equalIn : ∀ (k d : Nat) (t : TypeId) (x y : Value), flat P k t = true → OkV A x → OkV A y → Lock P F false TQ A (Op.equalIn d t x y)
 | 0, d, t, x, y, h, _, _ => by cases h
 | k + 1, 0, t, x, y, _, _, _ => lk_unsup (by simp)
 | k + 1, d + 1, t, x, y, h, hx, hy => by
  unfold Op.equalIn
  refine Lock.bind lk_under fun u hu => ?_
  unfold flat at h
  rw [hu] at h
  split at h
  ·rename_i k' e
   cases e
   cases x with
   | int k1 a =>
    cases y with
    | int k2 b => dsimp only; split <;> first | exact lk_pure trivial | exact lk_stuck
    | pointer b =>
     cases b with
     | none => exact lk_unsup (by simp)
     | some b =>
      by_cases h0 : a = 0
      ·subst h0; exact lk_pure trivial
      ·split <;> first | contradiction | exact lk_pure trivial | exact lk_unsup (by simp) | exact lk_stuck
    | _ => exact lk_stuck
   | pointer a =>
    cases a with
    | none => cases y <;> exact lk_unsup (by simp)
    | some a =>
     have ha : A a.block := by cases hx with | ptr h => exact h _ rfl
     cases y with
     | int k2 b =>
      by_cases h0 : b = 0
      ·subst h0; exact lk_pure trivial
      ·split <;> first | contradiction | exact lk_pure trivial | exact lk_unsup (by simp) | exact lk_stuck
     | pointer b =>
      cases b with
      | none => exact lk_unsup (by simp)
      | some b =>
       have hb : A b.block := by cases hy with | ptr h => exact h _ rfl
       refine Lock.bind (lk_behindNumber ha) fun r hr => Lock.bind (lk_behindNumber hb) fun s hs => ?_
       dsimp only
       refine lk_program rfl ?_
       split
       ·exact Lock.bind (lk_byteOf hr) fun _ _ => Lock.bind (lk_byteOf hs) fun _ _ => lk_pure trivial
       ·refine Lock.bind lk_info fun i _ => ?_
        split
        ·split <;> first | exact lk_pure trivial | exact lk_unsup (by simp)
        ·exact lk_unsup (by simp)
     | _ => exact lk_unsup (by simp)
   | _ => cases y <;> first | exact lk_stuck | exact lk_unsup (by simp)
  ·rename_i e
   cases e
   cases x with
   | string a => cases y <;> first | exact lk_pure trivial | exact lk_stuck
   | _ => exact lk_stuck
  ·rename_i e
   cases e
   cases x with
   | bool a => cases y <;> first | exact lk_pure trivial | exact lk_stuck
   | _ => exact lk_stuck
  ·rename_i fs e
   cases e
   cases x with
   | agg xs =>
    cases y with
    | agg ys =>
     have hxs : OkVs A xs := by cases hx with | agg h => exact h
     have hys : OkVs A ys := by cases hy with | agg h => exact h
     refine lk_program (by simp only [stood_at]) ?_
     dsimp only
     split
     ·refine Lock.bind (Q := TQ) (lk_unsup (by simp)) fun _ _ => ?_
      refine Lock.bind (lk_forInA (I := fun _ => True) fs _ trivial fun f hf s _ => ?_) fun s _ => ?_
      ·split
       ·refine Lock.bind (lk_part hxs) fun a ha => Lock.bind (lk_part hys) fun b hb => ?_
        refine Lock.bind (lk_equalIn k d f.type a b (by simpa using (Array.all_eq_true_iff_forall_mem.1 h) f hf) ha hb) fun c _ => ?_
        split <;> exact lk_pure trivial
       ·exact lk_pure trivial
      ·split <;> exact lk_pure trivial
     ·refine Lock.bind (lk_forInA (I := fun _ => True) fs _ trivial fun f hf s _ => ?_) fun s _ => ?_
      ·split
       ·refine Lock.bind (lk_part hxs) fun a ha => Lock.bind (lk_part hys) fun b hb => ?_
        refine Lock.bind (lk_equalIn k d f.type a b (by simpa using (Array.all_eq_true_iff_forall_mem.1 h) f hf) ha hb) fun c _ => ?_
        split <;> exact lk_pure trivial
       ·exact lk_pure trivial
      ·split <;> exact lk_pure trivial
    | _ => exact lk_stuck
   | _ => exact lk_stuck
  ·cases h
theorem lk_eqGuardIn_nil {d : Nat} {t : TypeId} : Lock P F false TQ A (Op.eqGuardIn d t .nilIface .nilIface) := by
 cases d with
 | zero => exact lk_unsup (by simp)
 | succ d =>
  unfold Op.eqGuardIn
  refine Lock.bind lk_under fun u _ => ?_
  split <;> first | exact lk_pure trivial | (rename_i h1 h2; cases h1) | (rename_i h1 h2 _; cases h1)
omit [Zone] in
theorem eqGuardType_at (P : Program) (F : Array Func) : ∀ (d : Nat) (t : TypeId), Program.eqGuardType { P with funcs := F } d t = P.eqGuardType d t
 | 0, _ => rfl
 | d + 1, t => by
  have ih := eqGuardType_at P F d
  have e : Program.underlying { P with funcs := F } t = P.underlying t := rfl
  simp only [Program.eqGuardType, e, ih]
theorem lk_eqGuard {op : BinOp} {t : TypeId} {x y : Operand} {a b : Value} (h : P.eqGuardType P.depth t = false) : Lock P F false TQ A (eqGuard op t x y a b) := by
 have nil : Lock P F false TQ A (if ((match x with | Operand.const v => true | x => false) || (match y with | Operand.const v => true | x => false)) = true then pure () else (do
    if ← Op.eqGuardIn Op.maxDepth t .nilIface .nilIface then unsupported (.noEntry "binop/eql: two nil values of an interface type with methods, neither of them the literal nil")) : Sem Unit) := by
  generalize ((match x with | Operand.const v => true | x => false) || (match y with | Operand.const v => true | x => false)) = c
  cases c with
  | true => exact lk_pure trivial
  | false =>
   refine Lock.bind lk_eqGuardIn_nil fun c _ => ?_
   split
   ·exact lk_unsup (by simp)
   ·exact lk_pure trivial
 have agg : ∀ xs ys, Lock P F false TQ A (do
    if !(← program).eqGuardType (← program).depth t then return
    if ← Op.eqGuardIn Op.maxDepth t (.agg xs) (.agg ys) then unsupported (.noEntry "binop/eql: two nil values of an interface type with methods, in a part of a struct or an array") : Sem Unit) := by
  intro xs ys
  have ed : Program.depth { P with funcs := F } = P.depth := rfl
  refine lk_program ?_ ?_
  ·simp only [eqGuardType_at]
  ·refine lk_program ?_ ?_
   ·simp only [ed]
   ·rw [h]
    exact lk_pure trivial
 cases op <;> first
  | exact lk_pure trivial
  | (cases a <;> cases b <;> first | exact lk_pure trivial | exact nil | exact agg _ _)
theorem lk_stringOp {op : BinOp} {x y : ByteArray} : Lock P F n OkV A (Op.stringOp op x y) := by
 unfold Op.stringOp
 dsimp only
 split
 ·split
  ·exact lk_unsup (by simp)
  ·exact lk_pure (.string _)
 all_goals first | exact lk_pure (.bool _) | exact lk_stuck
theorem lk_shift {op : BinOp} {k yk : IntKind} {a b : Int} : Lock P F n OkV A (Op.shift op k a yk b) := by
 unfold Op.shift
 split
 ·exact lk_runtimePanic trivial
 ·dsimp only
  split <;> first | exact lk_pure (.int _ _) | exact lk_stuck
theorem lk_binOp {op : BinOp} {t : TypeId} {x y : Value} (ht : flat P 8 t = true) (hx : OkV A x) (hy : OkV A y) : Lock P F true OkV A (binOp op t x y) := by
 have eql : ∀ x y, OkV A x → OkV A y → Lock P F true OkV A (do pure (.bool (← Op.equal t x y)) : Sem Value) := fun x y hx hy => Lock.bind (lk_equalIn 8 _ t x y ht hx hy) fun _ _ => lk_pure (.bool _)
 have neq : ∀ x y, OkV A x → OkV A y → Lock P F true OkV A (do pure (.bool (!(← Op.equal t x y))) : Sem Value) := fun x y hx hy => Lock.bind (lk_equalIn 8 _ t x y ht hx hy) fun _ _ => lk_pure (.bool _)
 have hx0 := hx
 have hy0 := hy
 have moved : ∀ x y, OkV A x → Lock P F true OkV A (do if (← underlying t) matches .unsafePointer then movedPointer t x y else movedNumber t x y : Sem Value) := by
  intro x y hx
  refine Lock.bind lk_under fun d hd => ?_
  cases d <;> first
   | exact lk_movedNumber hx
   | (unfold flat at ht; rw [hd] at ht; cases ht)
 have sub : ∀ k a b, A (Addr.block a) → A (Addr.block b) → Lock P F true OkV A (do Op.addrSub k (← behindNumber a).1 (← behindNumber b).1 : Sem Value) := fun k a b ha hb => Lock.bind (lk_behindNumber ha) fun r hr => Lock.bind (lk_behindNumber hb) fun s hs => lk_addrSub hr hs
 have cmp : ∀ op a b, A (Addr.block a) → A (Addr.block b) → Lock P F true OkV A (do Op.addrCmp op (← behindNumber a).1 (← behindNumber b).1 : Sem Value) := fun op a b ha hb => Lock.bind (lk_behindNumber ha) fun r hr => Lock.bind (lk_behindNumber hb) fun s hs => lk_addrCmp hr hs
 have mod : ∀ k a m, A (Addr.block a) → Lock P F true OkV A (do Op.addrMod k (← behindNumber a).1 m : Sem Value) := fun k a m ha => Lock.bind (lk_behindNumber ha) fun r hr => lk_addrMod hr
 cases hx with
 | int k a =>
  cases hy with
  | int k' b =>
   cases op with
   | shl => exact lk_shift (op := .shl) (k := k) (yk := k') (a := a) (b := b)
   | shr => exact lk_shift (op := .shr) (k := k) (yk := k') (a := a) (b := b)
   | _ =>
    unfold binOp
    dsimp only
    by_cases hk : k = k'
    ·rw [if_neg (by simpa using hk)]
     first
      | exact lk_pure (.int _ _)
      | exact lk_pure (.bool _)
      | exact lk_stuck
      | (unfold Op.intDiv
         split
         ·exact lk_runtimePanic trivial
         ·exact lk_pure (.int _ _))
    ·rw [if_pos (by simpa using hk)]
     exact lk_stuck
  | @ptr b hb =>
   cases b with
   | none =>
    cases op <;> first
     | exact lk_unsup (by simp)
     | exact lk_movedNumber hy0
     | exact eql _ _ hx0 hy0
     | exact neq _ _ hx0 hy0
   | some b =>
    cases op <;> first
     | exact lk_unsup (by simp)
     | exact lk_movedNumber hy0
     | exact mod _ _ _ (hb _ rfl)
     | exact eql _ _ hx0 hy0
     | exact neq _ _ hx0 hy0
  | _ => cases op <;> first | exact lk_stuck | exact eql _ _ hx0 hy0 | exact neq _ _ hx0 hy0
 | string s =>
  cases hy with
  | string s' => cases op <;> first | exact lk_stringOp (op := .add) | exact lk_stringOp (op := .eql) | exact lk_stringOp (op := .neq) | exact lk_stringOp (op := .lss) | exact lk_stringOp (op := .leq) | exact lk_stringOp (op := .gtr) | exact lk_stringOp (op := .geq) | exact lk_stuck
  | _ => cases op <;> first | exact lk_stuck | exact lk_unsup (by simp) | exact eql _ _ hx0 hy0 | exact neq _ _ hx0 hy0
 | @ptr a ha =>
  cases a with
  | none =>
   cases hy with
   | @ptr b hb => cases b <;> cases op <;> first | exact lk_unsup (by simp) | exact eql _ _ hx0 hy0 | exact neq _ _ hx0 hy0
   | _ =>
    cases op <;> first
     | exact lk_unsup (by simp)
     | exact moved _ _ hx0
     | exact lk_movedNumber hx0
     | exact eql _ _ hx0 hy0
     | exact neq _ _ hx0 hy0
  | some a =>
   have ha' : A a.block := ha _ rfl
   cases hy with
   | @ptr b hb =>
    cases b with
    | none => cases op <;> first | exact lk_unsup (by simp) | exact eql _ _ hx0 hy0 | exact neq _ _ hx0 hy0
    | some b =>
     have hb' : A b.block := hb _ rfl
     cases op <;> first
      | exact lk_unsup (by simp)
      | exact sub _ _ _ ha' hb'
      | exact cmp _ _ _ ha' hb'
      | exact eql _ _ hx0 hy0
      | exact neq _ _ hx0 hy0
   | int k b =>
    cases op <;> first
     | exact lk_unsup (by simp)
     | exact moved _ _ hx0
     | exact lk_movedNumber hx0
     | exact mod _ _ _ ha'
     | exact eql _ _ hx0 hy0
     | exact neq _ _ hx0 hy0
   | _ => cases op <;> first | exact lk_unsup (by simp) | exact eql _ _ hx0 hy0 | exact neq _ _ hx0 hy0
 | _ => cases hy <;> cases op <;> first | exact lk_stuck | exact lk_unsup (by simp) | exact eql _ _ hx0 hy0 | exact neq _ _ hx0 hy0
end
end Go.Proofs.Ytnikfjfcbpeieaa.Lk
end
section
namespace Go.Proofs.Ytnikfjfcbpeieaa.Lk
open Go Go.Conc
set_option linter.unusedVariables false
set_option linter.unusedSimpArgs false
variable [Zone]
section
variable {P : Program} {F : Array Func} {n : Bool} {A : Nat → Prop} {α β : Type} {Q : (Nat → Prop) → α → Prop}
omit [Zone] in
theorem OkVs.replicate {m : Nat} {v : Value} (h : OkV A v) : OkVs A (Array.replicate m v) := by
 intro x hx
 rw [Array.mem_replicate] at hx
 rw [hx.2]; exact h
omit [Zone] in
theorem OkVs.append {a b : Array Value} (ha : OkVs A a) (hb : OkVs A b) : OkVs A (a ++ b) := fun x hx => (Array.mem_append.1 hx).elim (ha x) (hb x)
omit [Zone] in
theorem OkVs.set {a : Array Value} {i : Nat} {v : Value} (ha : OkVs A a) (hv : OkV A v) : OkVs A (a.setIfInBounds i v) := fun x hx => (mem_setIfInBounds hx).elim (ha x) fun e => e ▸ hv
omit [Zone] in
theorem OkVs.get {a : Array Value} {i : Nat} {v : Value} (ha : OkVs A a) (h : a[i]? = some v) : OkV A v := ha v (Array.mem_of_getElem? h)
omit [Zone] in
theorem OkV.undef : OkV A undef := .tuple (by intro v hv; simp at hv)
theorem lk_stringToBytes {e : TypeId} {s : ByteArray} : Lock P F true OkV A (Conv.stringToBytes e s) := by
 unfold Conv.stringToBytes
 refine lk_choose fun cap => ?_
 dsimp only
 refine Lock.bindN (lk_newRow (OkVs.append ?_ (OkVs.replicate (.int _ _)))) fun A' hA a ha => ?_
 ·intro x hx
  obtain ⟨b, _, rfl⟩ := Array.mem_map.1 hx
  exact .int _ _
 ·refine Lock.bindN (Q := TQ) ?_ fun A2 hA2 _ _ => lk_pure (.slice fun x e => by cases e; exact hA2 _ ha)
  unfold markStringish
  refine lk_shape ha fun s => ?_
  split
  ·exact Lock.freeze ha (Lock.pure trivial)
  ·exact lk_pure trivial
theorem lk_bytesToString {x : Value} (hx : OkV A x) : Lock P F n OkV A (Conv.bytesToString x) := by
 unfold Conv.bytesToString
 cases hx with
 | @slice a l c h =>
  cases a with
  | none => exact lk_pure (.string _)
  | some a =>
   dsimp only
   refine Lock.bind (lk_loadCells (h _ rfl)) fun cs _ => ?_
   refine Lock.bind (lk_forInA (I := fun _ => True) cs _ trivial fun f hf s _ => ?_) fun s _ => lk_pure (.string _)
   split
   ·exact lk_pure trivial
   ·exact lk_stuck
 | _ => exact lk_stuck
def convB (P : Program) (s d : TypeId) : Bool :=
 match P.underlying s, P.underlying d with
 | some (.int _), some (.int _) => true
 | some .string, some .string => true
 | some .string, some (.slice e) => (match P.underlying e with | some (.int .u8) => true | _ => false)
 | some (.slice e), some .string => (match P.underlying e with | some (.int .u8) => true | _ => false)
 | _, _ => false
theorem lk_convert {s d : TypeId} {x : Value} (h : convB P s d = true) (hx : OkV A x) : Lock P F true OkV A (convert s d x) := by
 unfold convert
 refine Lock.bind lk_under fun us hs => Lock.bind lk_under fun ud hd => ?_
 unfold convB at h
 rw [hs, hd] at h
 split at h
 ·rename_i k1 k2 e1 e2
  cases e1; cases e2
  have hx0 := hx
  cases hx with
  | int k m => exact lk_pure (.int _ _)
  | @ptr a ha => cases a <;> first | exact lk_unsup (by simp)
  | _ => exact lk_unsup (by simp)
 ·rename_i e1 e2
  cases e1; cases e2
  cases hx with
  | int k m => exact lk_pure (.string _)
  | string b => exact lk_pure (.string _)
  | _ => exact lk_unsup (by simp)
 ·rename_i e e1 e2
  cases e1; cases e2
  split at h
  ·rename_i e3
   cases hx with
   | string b =>
    refine Lock.bind lk_under fun ue he => ?_
    rw [e3] at he
    cases he
    exact lk_stringToBytes
   | @slice a l c _ => cases a <;> exact lk_unsup (by simp)
   | @ptr a _ => cases a <;> exact lk_unsup (by simp)
   | _ => exact lk_unsup (by simp)
  ·cases h
 ·rename_i e e1 e2
  cases e1; cases e2
  split at h
  ·rename_i e3
   have hx0 := hx
   cases hx with
   | int k m => exact lk_pure (.string _)
   | string b => exact lk_pure (.string _)
   | _ =>
    refine Lock.bind lk_under fun ue he => ?_
    rw [e3] at he
    cases he
    exact lk_bytesToString hx0
  ·cases h
 ·cases h
def lenB (P : Program) (ats : Array TypeId) : Bool :=
 match ats[0]? with
 | some t => (match P.underlying t with | some .string | some (.array ..) | some (.slice _) => true | _ => false)
 | none => true
theorem lk_len {ats : Array TypeId} {t : TypeId} {args : Array Value} (h : lenB P ats = true) : Lock P F n OkV A (Builtin.len_ ats t args) := by
 unfold Builtin.len_
 unfold lenB at h
 cases h0 : ats[0]? with
 | none => exact lk_stuck
 | some t' =>
  rw [h0] at h
  cases h1 : args[0]? with
  | none => exact lk_stuck
  | some x =>
   dsimp only at h ⊢
   refine Lock.bind lk_under fun u hu => ?_
   rw [hu] at h
   split at h
   ·rename_i e; cases e
    cases x <;> first | exact lk_pure (.int _ _) | exact lk_stuck
   ·rename_i e; cases e
    exact lk_pure (.int _ _)
   ·rename_i e; cases e
    cases x <;> first | exact lk_pure (.int _ _) | exact lk_stuck
   ·cases h
theorem lk_lenOf {v : Value} : Lock P F n TQ A (Builtin.lenOf v) := by
 unfold Builtin.lenOf
 split <;> first | exact lk_pure trivial | exact lk_stuck
theorem lk_firstCells {s m : Nat} {v : Value} (hv : OkV A v) : Lock P F n OkVs A (Builtin.firstCells s m v) := by
 unfold Builtin.firstCells
 split
 ·cases hv with | slice h => exact lk_loadCells (h _ rfl)
 ·exact lk_pure (by intro x hx; simp at hx)
 ·refine lk_pure fun x hx => ?_
  obtain ⟨b, _, rfl⟩ := Array.mem_map.1 hx
  exact .int _ _
 ·exact lk_stuck
omit [Zone] in
theorem OkVs.zeroCells {zero : Array Value} {m : Nat} (h : OkVs A zero) : OkVs A (Builtin.zeroCells zero m) := by
 intro x hx
 unfold Builtin.zeroCells at hx
 obtain ⟨i, hi, rfl⟩ := Array.mem_map.1 hx
 have hi' : i < m * zero.size := by simpa using hi
 have : 0 < zero.size := by
  rcases Nat.eq_zero_or_pos zero.size with h0 | h0
  ·rw [h0] at hi'; omega
  ·exact h0
 have hlt : i % zero.size < zero.size := Nat.mod_lt _ this
 rw [getElem!_pos zero (i % zero.size) hlt]
 exact h _ (Array.getElem_mem _)
theorem lk_holdsCells {a : Addr} {c : Nat} (h : A a.block) : Lock P F n TQ A (Builtin.holdsCells a c) := by
 unfold Builtin.holdsCells
 refine lk_shape h fun s => ?_
 split <;> exact lk_pure trivial
theorem lk_mayShare {s l m : Nat} {b : Option Addr} {x : Value} (hb : ∀ a, b = some a → A a.block) (hx : OkV A x) : Lock P F n TQ A (Builtin.mayShare s l m b x) := by
 unfold Builtin.mayShare
 have main : ∀ (b : Option Addr) (there : Bool), Lock P F n TQ A (if (!there) = true then pure true else (match (generalizing := false) x with
   | .slice (some b') _ _ => do pure (!(← Builtin.holdsCells b' (m * s)) || b.any (·.block == b'.block))
   | _ => pure false : Sem Bool)) := by
  intro b there
  split
  ·exact lk_pure trivial
  ·cases hx with
   | @slice a l c h =>
    cases a with
    | none => exact lk_pure trivial
    | some a => exact Lock.bind (lk_holdsCells (h _ rfl)) fun _ _ => lk_pure trivial
   | _ => exact lk_pure trivial
 dsimp only
 cases b with
 | none => exact Lock.bind (Q := TQ) (lk_pure trivial) fun there _ => main none there
 | some a =>
  refine Lock.bind (lk_holdsCells (hb a rfl)) fun _ _ => lk_frozen (by rw [add_block]; exact hb a rfl) fun _ => ?_
  exact Lock.bind (Q := TQ) (lk_pure trivial) fun there _ => main (some a) there
def appendB (P : Program) (ats : Array TypeId) : Bool :=
 match ats[0]?, ats[1]? with
 | some t, some u => (match P.underlying t with | some (.slice e) => zeroB P e | _ => false) && (match P.underlying u with | some (.slice _) | some .string => true | _ => false)
 | _, _ => false
theorem lk_append {ats : Array TypeId} {t : TypeId} {args : Array Value} (h : appendB P ats = true) (ha : OkVs A args) : Lock P F true OkV A (Builtin.append_ ats t args) := by
 unfold Builtin.append_
 unfold appendB at h
 cases h0 : ats[0]? with
 | none => exact lk_stuck
 | some t0 =>
 cases h1 : args[0]? with
 | none => exact lk_stuck
 | some s =>
 cases h2 : args[1]? with
 | none => exact lk_stuck
 | some x =>
 cases h3 : ats[1]? with
 | none => rw [h0, h3] at h; cases h
 | some t1 =>
 rw [h0, h3] at h
 dsimp only at h ⊢
 have hs := ha.get h1
 have hx := ha.get h2
 refine Lock.bind lk_under fun u hu => ?_
 rw [hu] at h
 split
 ·rename_i elem
  cases hs with
  | @slice base sLen sCap hbase =>
   dsimp only at h ⊢
   refine Lock.bind lk_sizeOf fun size _ => Lock.bind lk_under fun u1 hu1 => ?_
   rw [hu1] at h
   simp only [Bool.and_eq_true] at h
   obtain ⟨hz, h4⟩ := h
   refine Lock.bind (Q := fun _ z => z = false) (lk_pure ?_) fun zeros hzs => ?_
   ·cases u1 <;> first | rfl | cases h4
   subst hzs
   simp only [Bool.false_eq_true, if_false]
   refine Lock.bind lk_lenOf fun m _ => ?_
   have old : Lock P F false OkVs A (Builtin.firstCells size sLen (Value.slice base sLen sCap)) := lk_firstCells (.slice hbase)
   have new : Lock P F false OkVs A (Builtin.firstCells size m x) := lk_firstCells hx
   simp only [Bool.not_false, if_true]
   split
   ·refine Lock.bind new fun w hw => ?_
    cases base with
    | none => exact lk_pure (.slice hbase)
    | some a =>
     refine Lock.bind (lk_storeCells (by rw [add_block]; exact hbase _ rfl) _ _ fun v hv => hw v (by simpa using hv)) fun _ _ => lk_pure (.slice hbase)
   ·refine Lock.bind lk_info fun i _ => ?_
    split
    ·refine Lock.bind (Q := TQ) (lk_runtimePanic (e := .error _) trivial) fun _ _ => ?_
     refine Lock.bind lk_info fun i _ => ?_
     split
     ·refine Lock.bind (Q := TQ) ?_ fun _ _ => ?_
      ·refine Lock.bind (lk_mayShare hbase hx) fun b _ => ?_
       split
       ·exact Lock.mark (.inl rfl) (lk_unsup (by simp))
       ·exact lk_unsup (by simp)
      ·refine lk_choose fun newCap => Lock.bind lk_info fun i _ => Lock.bind lk_askRoom fun _ _ => Lock.bind old fun o ho => ?_
       refine Lock.bind new fun w hw => Lock.bind (lk_zero hz) fun z hz => ?_
       exact Lock.bindN (lk_newRow ((ho.append hw).append (OkVs.zeroCells hz.cells))) fun A' _ r hr => lk_pure (.slice fun x e => by cases e; exact hr)
     ·refine lk_choose fun newCap => Lock.bind lk_info fun i _ => Lock.bind lk_askRoom fun _ _ => Lock.bind old fun o ho => ?_
      refine Lock.bind new fun w hw => Lock.bind (lk_zero hz) fun z hz => ?_
      exact Lock.bindN (lk_newRow ((ho.append hw).append (OkVs.zeroCells hz.cells))) fun A' _ r hr => lk_pure (.slice fun x e => by cases e; exact hr)
    ·refine Lock.bind lk_info fun i _ => ?_
     split
     ·refine Lock.bind (Q := TQ) ?_ fun _ _ => ?_
      ·refine Lock.bind (lk_mayShare hbase hx) fun b _ => ?_
       split
       ·exact Lock.mark (.inl rfl) (lk_unsup (by simp))
       ·exact lk_unsup (by simp)
      ·refine lk_choose fun newCap => Lock.bind lk_info fun i _ => Lock.bind lk_askRoom fun _ _ => Lock.bind old fun o ho => ?_
       refine Lock.bind new fun w hw => Lock.bind (lk_zero hz) fun z hz => ?_
       exact Lock.bindN (lk_newRow ((ho.append hw).append (OkVs.zeroCells hz.cells))) fun A' _ r hr => lk_pure (.slice fun x e => by cases e; exact hr)
     ·refine lk_choose fun newCap => Lock.bind lk_info fun i _ => Lock.bind lk_askRoom fun _ _ => Lock.bind old fun o ho => ?_
      refine Lock.bind new fun w hw => Lock.bind (lk_zero hz) fun z hz => ?_
      exact Lock.bindN (lk_newRow ((ho.append hw).append (OkVs.zeroCells hz.cells))) fun A' _ r hr => lk_pure (.slice fun x e => by cases e; exact hr)
  | _ => exact lk_stuck
 ·exact lk_stuck
end
end Go.Proofs.Ytnikfjfcbpeieaa.Lk
end
section
namespace Go.Proofs.Ytnikfjfcbpeieaa.Lk
open Go Go.Conc
set_option linter.unusedVariables false
set_option linter.unusedSimpArgs false
variable [Zone]
section
variable {P : Program} {F : Array Func} {n : Bool} {A : Nat → Prop} {α β : Type} {Q : (Nat → Prop) → α → Prop}
theorem lk_min2 {x y : Value} (hx : OkV A x) (hy : OkV A y) : Lock P F n OkV A (Builtin.min2 x y) := by
 cases hx with
 | int k a =>
  cases hy with
  | int k' b => exact lk_pure (.int _ _)
  | @ptr b _ => cases b <;> first | exact lk_unsup (by simp) | exact lk_stuck
  | _ => exact lk_stuck
 | string s =>
  cases hy with
  | string s' => exact Lock.bind lk_stringOp fun v _ => Lock.bind lk_asBool fun b _ => lk_pure (.string _)
  | @ptr b _ => cases b <;> first | exact lk_unsup (by simp) | exact lk_stuck
  | _ => exact lk_stuck
 | @ptr a _ =>
  cases a with
  | none =>
   cases hy with
   | @ptr b _ => cases b <;> first | exact lk_unsup (by simp) | exact lk_stuck
   | _ => exact lk_stuck
  | some a => cases hy <;> exact lk_unsup (by simp)
 | _ =>
  cases hy with
  | @ptr b _ => cases b <;> first | exact lk_unsup (by simp) | exact lk_stuck
  | _ => exact lk_stuck
theorem lk_max2 {x y : Value} (hx : OkV A x) (hy : OkV A y) : Lock P F n OkV A (Builtin.max2 x y) := by
 cases hx with
 | int k a =>
  cases hy with
  | int k' b => exact lk_pure (.int _ _)
  | @ptr b _ => cases b <;> first | exact lk_unsup (by simp) | exact lk_stuck
  | _ => exact lk_stuck
 | string s =>
  cases hy with
  | string s' => exact Lock.bind lk_stringOp fun v _ => Lock.bind lk_asBool fun b _ => lk_pure (.string _)
  | @ptr b _ => cases b <;> first | exact lk_unsup (by simp) | exact lk_stuck
  | _ => exact lk_stuck
 | @ptr a _ =>
  cases a with
  | none =>
   cases hy with
   | @ptr b _ => cases b <;> first | exact lk_unsup (by simp) | exact lk_stuck
   | _ => exact lk_stuck
  | some a => cases hy <;> exact lk_unsup (by simp)
 | _ =>
  cases hy with
  | @ptr b _ => cases b <;> first | exact lk_unsup (by simp) | exact lk_stuck
  | _ => exact lk_stuck
theorem lk_fold {f : Value → Value → Sem Value} (hf : ∀ x y, OkV A x → OkV A y → Lock P F false OkV A (f x y)) : ∀ (l : List Value) (x : Value), OkV A x → (∀ v ∈ l, OkV A v) → Lock P F false OkV A (l.foldlM f x)
 | [], x, hx, _ => lk_pure hx
 | y :: l, x, hx, hl => by
  rw [List.foldlM_cons]
  exact Lock.bind (hf x y hx (hl y (by simp))) fun v hv => lk_fold hf l v hv fun z hz => hl z (by simp [hz])
theorem lk_box {e : TypeId} {v : Value} (h : OkV A v) : Lock P F true OkV A (Instr.box e v) := by
 unfold Instr.box
 exact Lock.bindN (lk_newVar h) fun A' _ a ha => lk_pure (.ptr fun x e => by cases e; exact ha)
theorem lk_alloc {e : TypeId} (hz : zeroB P e = true) : Lock P F true OkV A (Instr.alloc e true (.tuple #[])) := by
 unfold Instr.alloc
 refine Lock.bind (lk_zero hz) fun z hz => ?_
 exact Lock.bindN (lk_newVar hz) fun A' _ a ha => lk_pure (.ptr fun x e => by cases e; exact ha)
omit [Zone] in
theorem okVs_fill {place : Nat → Option (Nat × Nat)} : ∀ (l : List (Nat × Value)) (cells out : Array Value), OkVs A cells → (∀ x ∈ l, OkV A x.2) → Instr.fill place cells l = some out → OkVs A out
 | [], cells, out, hc, _, e => by cases e; exact hc
 | (i, v) :: l, cells, out, hc, hl, e => by
  unfold Instr.fill at e
  split at e
  ·cases e
  ·split at e
   ·cases e
   ·refine okVs_fill l _ out ?_ (fun x hx => hl x (by simp [hx])) e
    have hv := (hl (i, v) (by simp)).cells
    rename_i off size _ _
    rw [← Array.foldl_toList]
    have : ∀ (m : List (Value × Nat)) (cs : Array Value), OkVs A cs → (∀ x ∈ m, OkV A x.1) → OkVs A (m.foldl (fun cs x => cs.setIfInBounds (off + x.2) x.1) cs) := by
     intro m
     induction m with
     | nil => intro cs h _; exact h
     | cons x m ih => intro cs h hm; exact ih _ (h.set (hm x (by simp))) fun y hy => hm y (by simp [hy])
    refine this _ _ hc fun x hx => ?_
    have hx' : x ∈ v.cells.toList.zipIdx := by simpa using hx
    have h2 := List.mem_map_of_mem (f := Prod.fst) hx'
    rw [List.zipIdx_map_fst] at h2
    exact hv _ (by simpa using h2)
theorem lk_mapM {γ δ : Type} {f : γ → Sem δ} {R : δ → Prop} (hf : ∀ x, Lock P F false (fun _ d => R d) A (f x)) (l : Array γ) : Lock P F false TQ A (l.mapM f) := by
 rw [Array.mapM_eq_mapM_toList]
 have : ∀ l : List γ, Lock P F false TQ A (l.mapM f) := by
  intro l
  induction l with
  | nil => exact lk_pure trivial
  | cons x l ih =>
   rw [List.mapM_cons]
   exact Lock.bind (hf x) fun d _ => Lock.bind ih fun _ _ => lk_pure trivial
 exact Lock.bind (R := TQ) (f := fun x => Pure.pure x.toArray) (this _) fun _ _ => lk_pure trivial
theorem lk_build {t : TypeId} {parts : Array (Nat × Value)} (hz : zeroB P t = true) (hp : ∀ x ∈ parts, OkV A x.2) : Lock P F false OkV A (Instr.build t parts) := by
 unfold Instr.build
 refine Lock.bind (lk_zero hz) fun z hz => Lock.bind lk_under fun u _ => ?_
 split
 ·refine Lock.bind (lk_mapM (R := fun _ => True) (fun f => Lock.bind lk_sizeOf fun _ _ => lk_pure trivial) _) fun places _ => ?_
  split
  ·rename_i cells e
   exact lk_pure (.agg (okVs_fill _ _ _ hz.cells (fun x hx => hp x (by simpa using hx)) e))
  ·exact lk_stuck
 ·refine Lock.bind lk_sizeOf fun s _ => ?_
  split
  ·rename_i cells e
   exact lk_pure (.agg (okVs_fill _ _ _ hz.cells (fun x hx => hp x (by simpa using hx)) e))
  ·exact lk_stuck
 ·exact lk_stuck
theorem lk_buildSlice {t : TypeId} {len : Nat} {parts : Array (Nat × Value)} (hz : ∀ e, P.underlying t = some (.slice e) → zeroB P e = true) (hp : ∀ x ∈ parts, OkV A x.2) : Lock P F true OkV A (Instr.buildSlice t len parts) := by
 unfold Instr.buildSlice
 refine Lock.bind lk_under fun u hu => ?_
 split
 ·rename_i elem
  refine Lock.bind lk_sizeOf fun s _ => ?_
  have main : ∀ zero : Array Value, OkVs A zero → Lock P F true OkV A (match Instr.fill (fun i => some (i * s, s)) ((Array.range (len * s)).map (zero[· % zero.size]!)) parts.toList with
    | some cells => do pure (Value.slice (some (← newRow elem cells)) len len)
    | _ => stuck "buildSlice: a part of the wrong size") := by
   intro zero h0
   split
   ·rename_i cells e
    refine Lock.bindN (lk_newRow (okVs_fill _ _ _ ?_ (fun x hx => hp x (by simpa using hx)) e)) fun A' _ r hr => lk_pure (.slice fun x e => by cases e; exact hr)
    intro x hx
    obtain ⟨i, hi, rfl⟩ := Array.mem_map.1 hx
    by_cases hs : 0 < zero.size
    ·have hlt : i % zero.size < zero.size := Nat.mod_lt _ hs
     rw [getElem!_pos zero (i % zero.size) hlt]
     exact h0 _ (Array.getElem_mem _)
    ·rw [getElem!_neg zero (i % zero.size) (by omega)]
     exact .bool _
   ·exact lk_stuck
  have two : Lock P F true OkV A (if len * s = 0 then do
     let zero ← (Pure.pure #[] : Sem (Array Value))
     match Instr.fill (fun i => some (i * s, s)) ((Array.range (len * s)).map (zero[· % zero.size]!)) parts.toList with
      | some cells => do pure (Value.slice (some (← newRow elem cells)) len len)
      | _ => stuck "buildSlice: a part of the wrong size"
    else do
     let z ← zeroValue elem
     let zero ← (Pure.pure z.cells : Sem (Array Value))
     match Instr.fill (fun i => some (i * s, s)) ((Array.range (len * s)).map (zero[· % zero.size]!)) parts.toList with
      | some cells => do pure (Value.slice (some (← newRow elem cells)) len len)
      | _ => stuck "buildSlice: a part of the wrong size") := by
   split
   ·exact Lock.bind (Q := OkVs) (lk_pure (by intro x hx; simp at hx)) fun zero h0 => main zero h0
   ·exact Lock.bind (lk_zero (hz _ hu)) fun z h0 => Lock.bind (Q := OkVs) (lk_pure h0.cells) fun zero h0 => main zero h0
  dsimp only
  split
  ·exact Lock.bind (Q := TQ) (lk_unsup (by simp)) fun _ _ => two
  ·exact two
 ·exact lk_stuck
theorem lk_index {t : TypeId} {x i : Value} (hx : OkV A x) : Lock P F n OkV A (Instr.index t x i) := by
 unfold Instr.index
 refine Lock.bind lk_asIntOf fun ki _ => ?_
 obtain ⟨k, i⟩ := ki
 dsimp only
 refine Lock.bind lk_under fun u _ => ?_
 split
 ·split
  ·cases hx with
   | agg h => exact Lock.bind lk_sizeOf fun s _ => lk_part h
  ·exact lk_boundsPanic
 ·rename_i s _
  cases (if 0 ≤ i then s[i.toNat]? else none) with
  | some b => exact lk_pure (.int _ _)
  | none => exact lk_boundsPanic
 ·exact lk_stuck
theorem lk_extract {x : Value} {i : Nat} (hx : OkV A x) : Lock P F n OkV A (Instr.extract x i) := by
 unfold Instr.extract
 cases hx with
 | tuple h =>
  dsimp only
  split
  ·rename_i v e; exact lk_pure (h v (Array.mem_of_getElem? e))
  ·exact lk_stuck
 | _ => exact lk_stuck
theorem lk_field {t : TypeId} {x : Value} {i : Nat} (hx : OkV A x) : Lock P F n OkV A (Instr.field t x i) := by
 unfold Instr.field
 refine Lock.bind lk_under fun u _ => ?_
 split
 ·split
  ·exact Lock.bind (lk_asAgg hx) fun cs hcs => lk_part hcs
  ·exact lk_stuck
 ·exact lk_stuck
def opdB : Operand → Bool
 | .tmp _ => true
 | .const v => cleanB v
 | .func _ => true
 | .global _ => false
end
end Go.Proofs.Ytnikfjfcbpeieaa.Lk
end
section
namespace Go.Proofs.Ytnikfjfcbpeieaa.Lk
open Go Go.Conc
set_option linter.unusedVariables false
set_option linter.unusedSimpArgs false
variable [Zone]
def OkW (A : Nat → Prop) (v : Value) : Prop := OkV A v ∨ ZV v
def cellB (P : Program) (t : TypeId) : Bool := match P.underlying t with | some (.struct _) | some (.array ..) => false | _ => true
def sl1B (P : Program) (t : TypeId) : Bool := match P.underlying t with | some (.slice e) => (match P.info? e with | some i => i.size == 1 | none => true) | _ => false
theorem ZIn.sub {a : Addr} {c k n : Nat} (h : ZIn a c) (hk : k + n ≤ c) : ZIn (a.add k) n := by
 obtain ⟨b, off, spot⟩ := a
 obtain ⟨h1, h2, h3, h4⟩ := h
 have h2 : spot = none := h2
 subst h2
 simp only [] at h1 h3 h4
 unfold Addr.add
 by_cases h0 : k = 0
 ·subst h0
  exact ⟨by simpa using h1, by simp, by simpa using h3, by simp; omega⟩
 ·exact ⟨by simpa [h0] using h1, by simp [h0], by simp [h0]; omega, by simp [h0]; omega⟩
section
variable {P : Program} {F : Array Func} {n : Bool} {A : Nat → Prop} {α β : Type} {Q : (Nat → Prop) → α → Prop}
theorem lk_size1 {e : TypeId} (h : (match P.info? e with | some i => i.size == 1 | none => true) = true) : Lock P F n (fun _ s => s = 1) A (sizeOf e) := by
 unfold sizeOf
 refine Lock.bind lk_info fun i hi => lk_pure ?_
 rw [hi] at h
 simpa using h
theorem lk_loadZ {a : Addr} {m : Mode} (h : ZIn a 1) : Lock P F n OkV A (load a m) := Lock.loadZ h fun x => Lock.pure (.int _ _)
theorem lk_loadCellsZ {a : Addr} : ∀ (m i : Nat) (acc : Array Value), ZIn a (i + m) → OkVs A acc → Lock P F n OkVs A (loadCellsFrom a i m acc)
 | 0, i, acc, _, ha => lk_pure ha
 | m + 1, i, acc, h, ha => by
  unfold loadCellsFrom
  refine Lock.bind (lk_loadZ (h.sub (by omega))) fun v hv => lk_loadCellsZ m _ _ (by rw [show i + 1 + m = i + (m + 1) by omega]; exact h) ?_
  intro x hx
  rcases Array.mem_push.1 hx with hx | rfl
  ·exact ha x hx
  ·exact hv
theorem lk_loadAtW {t : TypeId} {v : Value} (ht : cellB P t = true) (h : OkW A v) : Lock P F n OkV A (Instr.loadAt t v) := by
 rcases h with h | h
 ·exact lk_loadAt h
 cases h with
 | ptr h =>
  unfold Instr.loadAt
  refine Lock.bind (Q := fun _ a => ZIn a 1) (lk_pure h) fun a ha => ?_
  unfold loadVar isAgg
  refine Lock.bind (Q := fun _ b => b = false) (Lock.bind lk_under fun d hd => ?_) fun b hb => ?_
  ·unfold cellB at ht
   rw [hd] at ht
   split <;> first | exact lk_pure rfl | (exfalso; revert ht; simp_all)
  ·subst hb
   exact lk_loadZ ha
 | slice h _ => exact Lock.bind (Q := fun _ _ => False) lk_stuck fun _ h => h.elim
theorem lk_indexAtW {t : TypeId} {x i : Value} (ht : sl1B P t = true) (h : OkW A x) : Lock P F n OkW A (Instr.indexAt t x i) := by
 rcases h with h | h
 ·exact (lk_indexAt h).mono fun _ _ _ h => .inl h
 unfold Instr.indexAt
 refine Lock.bind lk_asIntOf fun ki _ => ?_
 obtain ⟨k, i⟩ := ki
 dsimp only
 refine Lock.bind lk_under fun d hd => ?_
 unfold sl1B at ht
 rw [hd] at ht
 cases d with
 | slice e =>
  dsimp only at ht ⊢
  cases h with
  | ptr h => exact Lock.bind (Q := fun _ _ => False) lk_stuck fun _ h => h.elim
  | @slice a l c h hl =>
   dsimp only
   refine Lock.bind (Q := fun _ r => r = (some a, l, e)) (lk_pure rfl) fun r hr => ?_
   subst hr
   dsimp only
   refine Lock.bind lk_under fun d' _ => ?_
   by_cases hi : 0 ≤ i ∧ i < (l : Int)
   ·rw [if_pos hi]
    refine Lock.bind (lk_size1 ht) fun s hs => lk_pure (.inr (.ptr ?_))
    subst hs
    exact h.sub (by omega)
   ·rw [if_neg hi]
    have key : ∀ (c : Bool) (u : Unsupported), (∀ g, u ≠ .initOrder g) → Lock P F n OkW A (if c = true then (unsupported u : Sem Value) else boundsPanic k i (l : Int) BoundsCode.index) := by
     intro c u hu
     cases c with
     | true => exact lk_unsup hu
     | false => exact lk_boundsPanic
    exact key _ _ (by simp)
 | _ => cases ht
theorem lk_boundQ {x : Value} {y : Nat} {c : BoundsCode} : Lock P F n (fun _ r => r ≤ y) A (Instr.sliceBound x y c) := by
 unfold Instr.sliceBound
 refine Lock.bind lk_asIntOf fun ki _ => ?_
 obtain ⟨k, i⟩ := ki
 dsimp only
 split
 ·rename_i h; exact lk_pure (by omega)
 ·exact lk_boundsPanic
theorem lk_boundsQ {l c : Nat} {lo hi : Option Value} (hl : l ≤ c) : Lock P F n (fun _ (r : Nat × Nat × Nat) => r.1 ≤ r.2.1 ∧ r.2.1 ≤ r.2.2 ∧ r.2.2 = c) A (Instr.sliceBounds true l c lo hi none) := by
 unfold Instr.sliceBounds
 dsimp only
 refine Lock.bind (Q := fun _ m => m = c) (lk_pure rfl) fun m hm => ?_
 subst hm
 cases hi with
 | none =>
  refine Lock.bind (Q := fun _ h => h ≤ m) (lk_pure hl) fun h hh => ?_
  cases lo with
  | none => exact Lock.bind (Q := fun _ z => z ≤ h) (lk_pure (Nat.zero_le _)) fun z hz => lk_pure ⟨hz, hh, rfl⟩
  | some v => exact Lock.bind lk_boundQ fun z hz => lk_pure ⟨hz, hh, rfl⟩
 | some u =>
  refine Lock.bind lk_boundQ fun h hh => ?_
  cases lo with
  | none => exact Lock.bind (Q := fun _ z => z ≤ h) (lk_pure (Nat.zero_le _)) fun z hz => lk_pure ⟨hz, hh, rfl⟩
  | some v => exact Lock.bind lk_boundQ fun z hz => lk_pure ⟨hz, hh, rfl⟩
theorem lk_sliceAtW {t : TypeId} {x : Value} {lo hi : Option Value} (ht : sl1B P t = true) (h : OkW A x) : Lock P F n OkW A (Instr.sliceAt t x lo hi none) := by
 rcases h with h | h
 ·exact (lk_sliceAt h).mono fun _ _ _ h => .inl h
 unfold Instr.sliceAt
 refine Lock.bind lk_under fun d hd => ?_
 unfold sl1B at ht
 rw [hd] at ht
 cases d with
 | slice e =>
  dsimp only at ht ⊢
  unfold Instr.slice
  refine Lock.bind lk_under fun d2 hd2 => ?_
  obtain rfl : TypeDesc.slice e = d2 := Option.some.inj (hd.symm.trans hd2)
  cases h with
  | ptr h => exact lk_stuck
  | @slice a l c h hl =>
   dsimp only
   refine Lock.bind (lk_boundsQ hl) fun r hr => ?_
   obtain ⟨lo', hi', m⟩ := r
   obtain ⟨h1, h2, h3⟩ := hr
   simp only at h1 h2 h3
   subst h3
   dsimp only
   refine Lock.bind (lk_size1 ht) fun s hs => lk_pure ?_
   subst hs
   rw [Nat.mul_one]
   by_cases hm : m = lo'
   ·rw [if_pos hm]
    have h0 := h.sub (k := 0) (n := 0) (by omega)
    rw [show a.add 0 = a by unfold Addr.add; simp] at h0
    exact .inr (.slice (a := a) (by rw [hm, Nat.sub_self]; exact h0) (by omega))
   ·rw [if_neg hm]
    exact .inr (.slice (h.sub (by omega)) (by omega))
 | _ => cases ht
theorem lk_firstW {m : Nat} {v : Value} (hv : OkW A v) (hm : ∀ l, (∃ a c, v = .slice a l c) → m ≤ l) : Lock P F n OkVs A (Builtin.firstCells 1 m v) := by
 rcases hv with h | h
 ·exact lk_firstCells h
 cases h with
 | ptr h => exact lk_stuck
 | @slice a l c h hl =>
  unfold Builtin.firstCells loadCells
  have := hm l ⟨_, _, rfl⟩
  rw [Nat.mul_one]
  have h0 := h.sub (k := 0) (n := m) (by omega)
  rw [show a.add 0 = a by unfold Addr.add; simp] at h0
  exact lk_loadCellsZ m 0 _ (by rw [Nat.zero_add]; exact h0) (by intro x hx; simp at hx)
theorem lk_lenQ {v : Value} : Lock P F n (fun _ m => ∀ l, (∃ a c, v = .slice a l c) → m ≤ l) A (Builtin.lenOf v) := by
 unfold Builtin.lenOf
 split
 ·exact lk_pure (by rintro l ⟨a, c, e⟩; cases e; exact Nat.le_refl _)
 ·exact lk_pure (by rintro l ⟨a, c, e⟩; cases e)
 ·exact lk_stuck
theorem lk_mayW {s l m : Nat} {b : Option Addr} {x : Value} (hb : ∀ a, b = some a → A a.block) (hx : OkW A x) : Lock P F n TQ A (Builtin.mayShare s l m b x) := by
 rcases hx with h | h
 ·exact lk_mayShare hb h
 unfold Builtin.mayShare
 have main : ∀ (b : Option Addr) (there : Bool), Lock P F n TQ A (if (!there) = true then pure true else (match (generalizing := false) x with
   | .slice (some b') _ _ => do pure (!(← Builtin.holdsCells b' (m * s)) || b.any (·.block == b'.block))
   | _ => pure false : Sem Bool)) := by
  intro b there
  split
  ·exact lk_pure trivial
  ·cases h with
   | ptr h => exact lk_pure trivial
   | slice h _ =>
    refine Lock.bind (Q := TQ) ?_ fun _ _ => lk_pure trivial
    unfold Builtin.holdsCells
    exact Lock.shapeZ (k := fun i => match i with | some (_, n) => pure _ | none => pure false) h.1 fun s => by cases s <;> exact lk_pure trivial
 dsimp only
 cases b with
 | none => exact Lock.bind (Q := TQ) (lk_pure trivial) fun there _ => main none there
 | some a =>
  refine Lock.bind (lk_holdsCells (hb a rfl)) fun _ _ => lk_frozen (by rw [add_block]; exact hb a rfl) fun _ => ?_
  exact Lock.bind (Q := TQ) (lk_pure trivial) fun there _ => main (some a) there
def appendZB (P : Program) (ats : Array TypeId) : Bool := appendB P ats && (match ats[0]? with | some t => sl1B P t | none => true)
theorem lk_appendW {ats : Array TypeId} {t : TypeId} {s x : Value} (h : appendZB P ats = true) (hs : OkV A s) (hx : OkW A x) : Lock P F true OkV A (Builtin.append_ ats t #[s, x]) := by
 unfold appendZB at h
 simp only [Bool.and_eq_true] at h
 obtain ⟨h, hone⟩ := h
 unfold Builtin.append_
 unfold appendB at h
 cases h0 : ats[0]? with
 | none => exact lk_stuck
 | some t0 =>
 cases h3 : ats[1]? with
 | none => rw [h0, h3] at h; cases h
 | some t1 =>
 rw [h0] at hone
 rw [h0, h3] at h
 dsimp only at h hone ⊢
 show Lock P F true OkV A _
 simp only [List.getElem?_toArray, List.getElem?_cons_zero, List.getElem?_cons_succ]
 refine Lock.bind lk_under fun u hu => ?_
 rw [hu] at h
 unfold sl1B at hone
 rw [hu] at hone
 split
 ·rename_i elem
  dsimp only at hone
  cases hs with
  | @slice base sLen sCap hbase =>
   dsimp only at h ⊢
   refine Lock.bind (lk_size1 hone) fun size hsize => Lock.bind lk_under fun u1 hu1 => ?_
   subst hsize
   rw [hu1] at h
   simp only [Bool.and_eq_true] at h
   obtain ⟨hz, h4⟩ := h
   refine Lock.bind (Q := fun _ z => z = false) (lk_pure ?_) fun zeros hzs => ?_
   ·cases u1 <;> first | rfl | cases h4
   subst hzs
   simp only [Bool.false_eq_true, if_false]
   refine Lock.bind lk_lenQ fun m hm => ?_
   have old : Lock P F false OkVs A (Builtin.firstCells 1 sLen (Value.slice base sLen sCap)) := lk_firstCells (.slice hbase)
   have new : Lock P F false OkVs A (Builtin.firstCells 1 m x) := lk_firstW hx hm
   simp only [Bool.not_false, if_true]
   have fresh : Lock P F true OkV A (do
     let newCap ← choose (.appendCap (sLen + m) sCap elem)
     askRoom (newCap * (← typeInfo elem).bytes)
     let old ← Builtin.firstCells 1 sLen (Value.slice base sLen sCap)
     let new ← Builtin.firstCells 1 m x
     let rest := Builtin.zeroCells (← zeroValue elem).cells (newCap - (sLen + m))
     pure (.slice (some (← newRow elem (old ++ new ++ rest))) (sLen + m) newCap)) := by
    refine lk_choose fun newCap => Lock.bind lk_info fun i _ => Lock.bind lk_askRoom fun _ _ => Lock.bind old fun o ho => ?_
    refine Lock.bind new fun w hw => Lock.bind (lk_zero hz) fun z hz => ?_
    exact Lock.bindN (lk_newRow ((ho.append hw).append (OkVs.zeroCells hz.cells))) fun A' _ r hr => lk_pure (.slice fun x e => by cases e; exact hr)
   split
   ·refine Lock.bind new fun w hw => ?_
    cases base with
    | none => exact lk_pure (.slice hbase)
    | some a =>
     refine Lock.bind (lk_storeCells (by rw [add_block]; exact hbase _ rfl) _ _ fun v hv => hw v (by simpa using hv)) fun _ _ => lk_pure (.slice hbase)
   ·refine Lock.bind lk_info fun i _ => ?_
    split
    ·refine Lock.bind (Q := TQ) (lk_runtimePanic (e := .error _) trivial) fun _ _ => ?_
     refine Lock.bind lk_info fun i _ => ?_
     split
     ·refine Lock.bind (Q := TQ) ?_ fun _ _ => fresh
      refine Lock.bind (lk_mayW hbase hx) fun b _ => ?_
      split
      ·exact Lock.mark (.inl rfl) (lk_unsup (by simp))
      ·exact lk_unsup (by simp)
     ·exact fresh
    ·refine Lock.bind lk_info fun i _ => ?_
     split
     ·refine Lock.bind (Q := TQ) ?_ fun _ _ => fresh
      refine Lock.bind (lk_mayW hbase hx) fun b _ => ?_
      split
      ·exact Lock.mark (.inl rfl) (lk_unsup (by simp))
      ·exact lk_unsup (by simp)
     ·exact fresh
  | _ => exact lk_stuck
 ·exact lk_stuck
end
end Go.Proofs.Ytnikfjfcbpeieaa.Lk
end
section
namespace Go.Proofs.Ytnikfjfcbpeieaa.Lk
open Go Go.Conc
set_option linter.unusedVariables false
set_option linter.unusedSimpArgs false
variable [Zone]
theorem lk_makeSlice {P : Program} {F : Array Func} {A : Nat → Prop} {t : TypeId} {len cap : Value} (hz : ∀ e, P.underlying t = some (.slice e) → zeroB P e = true) : Lock P F true OkV A (Instr.makeSlice t len cap) := by
 unfold Instr.makeSlice
 refine Lock.bind lk_under fun u hu => ?_
 split
 ·rename_i elem
  refine Lock.bind lk_asInt fun l _ => Lock.bind lk_asInt fun c _ => Lock.bind lk_info fun ti _ => ?_
  dsimp only
  have room : ∀ zero : Array Value, OkVs A zero → ∀ m l c : Nat, Lock P F true OkV A (do
    let a ← newRow elem ((Array.range m).map (zero[· % zero.size]!))
    pure (Value.slice (some a) l c)) := by
   intro zero h0 m l c
   refine Lock.bindN (lk_newRow ?_) fun A' _ r hr => lk_pure (.slice fun x e => by cases e; exact hr)
   intro x hx
   obtain ⟨i, hi, rfl⟩ := Array.mem_map.1 hx
   by_cases hs : 0 < zero.size
   ·have hlt : i % zero.size < zero.size := Nat.mod_lt _ hs
    rw [getElem!_pos zero (i % zero.size) hlt]
    exact h0 _ (Array.getElem_mem _)
   ·rw [getElem!_neg zero (i % zero.size) (by omega)]
    exact .bool _
  have main : ∀ l c : Int, Lock P F true OkV A (do
    askRoom (c.toNat * ti.bytes)
    let n := c.toNat * (← sizeOf elem)
    let zero ← if n = 0 then pure #[] else do pure (← zeroValue elem).cells
    let a ← newRow elem ((Array.range n).map (zero[· % zero.size]!))
    pure (Value.slice (some a) l.toNat c.toNat)) := by
   intro l c
   refine Lock.bind lk_askRoom fun _ _ => Lock.bind lk_sizeOf fun s _ => ?_
   dsimp only
   split
   ·exact Lock.bind (Q := OkVs) (lk_pure (by intro x hx; simp at hx)) fun zero h0 => room zero h0 _ _ _
   ·exact Lock.bind (lk_zero (hz _ hu)) fun z h0 => Lock.bind (Q := OkVs) (lk_pure h0.cells) fun zero h0 => room zero h0 _ _ _
  split
  ·split
   ·exact Lock.bind (Q := TQ) (lk_runtimePanic trivial) fun _ _ => main _ _
   ·split
    ·exact Lock.bind (Q := TQ) (lk_runtimePanic trivial) fun _ _ => main _ _
    ·refine lk_choose fun i => ?_
     exact Lock.bind (Q := TQ) (lk_runtimePanic trivial) fun _ _ => main _ _
  ·exact main _ _
 ·exact lk_stuck
structure Plan where
 P : Program
 F : Array Func
 plain : Nat → Bool
 turned : Nat → Bool
 holds : Nat → Nat → Option Nat
 bare : Nat → Bool
 ary : Nat → Nat
 dirty : Nat → Nat → Bool
 zres : Nat → Bool
def Held (g : Nat) (v : Value) : Prop := v = undef ∨ (∃ ca, v = .func (.func g) #[] ca) ∨ (g = 1000000 ∧ ∃ t x, v = .iface t x)
namespace Plan
variable (L : Plan)
abbrev P' : Program := { L.P with funcs := L.F }
def known (g : Nat) : Bool := L.plain g || L.turned g
def knows (g n : Nat) : Bool := L.known g && (!L.turned g || n == L.ary g)
omit [Zone] in
theorem knows_known {g n : Nat} (h : L.knows g n = true) : L.known g = true := by unfold knows at h; simp only [Bool.and_eq_true] at h; exact h.1
def opdC (f : Nat) : Operand → Bool
 | .tmp t => !L.dirty f t
 | x => opdB x
def dstD (f : Nat) (o : Oper) : Bool := match o.dst with | none => true | some d => L.dirty f d
def zonB (f : Nat) (o : Oper) : Bool :=
 match o.op with
 | .move (.tmp _) | .assign (.tmp _) => L.dstD f o
 | .slice t (.tmp _) lo hi none => lo.all (L.opdC f) && hi.all (L.opdC f) && sl1B L.P t && L.dstD f o
 | .indexAddr t (.tmp _) i => L.opdC f i && sl1B L.P t && L.dstD f o
 | .load t (.tmp _) => cellB L.P t
 | .call c => match c.callee with
  | .builtin .len => lenB L.P c.argTypes
  | .builtin .append => c.args.size == 2 && (match c.args[0]?, c.args[1]? with | some a, some x => (match x with | Operand.tmp _ => true | _ => false) && (L.opdC f a && appendZB L.P c.argTypes) | _, _ => false)
  | .value (.func g) => L.knows g c.args.size && ((List.range c.args.size).all fun t => (L.holds g t).isNone && (match c.args[t]? with | some x => L.opdC f x || (L.dirty g t && opdB x) | none => true)) && (!L.zres g || L.dstD f o)
  | _ => false
 | _ => false
def opB (f : Nat) (o : Oper) : Bool :=
 (o.op.operands.all (L.opdC f) || L.zonB f o) &&
 (match o.dst with
   | none => true
   | some d => match L.holds f d with
    | none => true
    | some g => match o.op with
     | .makeFunc (.func g') first _ => g' == g && first.isEmpty
     | .makeInterface _ _ => g == 1000000
     | .move (.tmp t) | .assign (.tmp t) => L.holds f t == some g
     | _ => false) &&
 (L.zonB f o || match o.op with
   | .move _ | .assign _ | .pick .. | .box .. | .load .. | .store .. | .unOp .. | .slice .. | .fieldAddr .. | .indexAddr .. | .index .. | .field .. | .extract .. => true
   | .alloc t | .build t _ => zeroB L.P t
   | .buildSlice t _ _ => (match L.P.underlying t with | some (.slice e) => zeroB L.P e | _ => true)
   | .binOp _ t _ _ _ => flat L.P 8 t && !L.P.eqGuardType L.P.depth t
   | .convert s d _ => convB L.P s d
   | .makeFunc (.func _) _ _ => true
   | .makeInterface _ _ => true
   | .makeSlice t _ _ => (match L.P.underlying t with | some (.slice e) => zeroB L.P e | _ => true)
   | .panic (.tmp t) => L.holds f t == some 1000000
   | .call c => (match c.callee with
    | .builtin .len => lenB L.P c.argTypes
    | .builtin .append => appendB L.P c.argTypes
    | .builtin .min | .builtin .max => true
    | .value (.func g) => L.knows g c.args.size && ((List.range c.args.size).all fun t => (L.holds g t).isNone) && !L.zres g
    | .value (.tmp t) => (match L.holds f t with | some g => L.plain g && L.bare g && !L.zres g | none => false)
    | _ => false)
   | _ => false)
def codeB (f : Nat) : Code → Bool
 | .skip | .exit _ | .ret => true
 | .region _ ops _ => ops.all (L.opB f)
 | .seq a b => codeB f a && codeB f b
 | .cond c a b => opdB c && codeB f a && codeB f b
 | .block _ c | .loop c => codeB f c
 | _ => false
def itemB (f : Nat) : Item → Bool
 | .code c | .inLoop c => L.codeB f c
 | .inBlock _ => true
 | .inRegion ops _ => ops.all (L.opB f)
 | _ => false
structure Good : Prop where
 fns : ∀ g, L.known g = true → ∃ fn fn', L.P.funcs[g]? = some fn ∧ L.F[g]? = some fn' ∧ (fn.name == "runtime.NumGoroutine") = false ∧ (fn'.name == "runtime.NumGoroutine") = false ∧ fn.body.isSome = true ∧ fn'.body.isSome = true ∧ fn'.norace = fn.norace
 same : ∀ g, L.plain g = true → L.F[g]? = L.P.funcs[g]?
 code : ∀ g fn c, L.plain g = true → L.P.funcs[g]? = some fn → fn.body = some c → L.codeB g c = true
 bare : ∀ g, L.bare g = true → ∀ t, L.holds g t = none
 apart : ∀ g, L.turned g = true → L.plain g = false
 res : ∀ (g : Nat) (fn : Func), L.plain g = true → L.P.funcs[g]? = some fn → (∀ r : ResultVar, r ∈ fn.results → (match r with | .tmp t => L.dirty g t = false | .cell a _ => L.dirty g a = false)) ∨ (L.zres g = true ∧ ∃ t, fn.results = #[.tmp t])
def KInv (f : Nat) (tmps : Array Value) : Prop := ∀ t g v, L.holds f t = some g → tmps[t]? = some v → Held g v
def TmOk (A : Nat → Prop) (f : Nat) (T : Array Value) : Prop := ∀ t v, T[t]? = some v → OkV A v ∨ (L.dirty f t = true ∧ ZV v)
def Done (f : Nat) (o : Oper) (A : Nat → Prop) : Next → Prop
 | .value v => (OkV A v ∨ ((∀ d, o.dst = some d → L.dirty f d = true) ∧ ZV v)) ∧ ∀ d g, o.dst = some d → L.holds f d = some g → Held g v
 | .skip => True
 | .enter g args => L.knows g args.size = true ∧ L.TmOk A g args ∧ (∀ t, t < args.size → L.holds g t = none) ∧ (∀ d, o.dst = some d → L.holds f d = none) ∧ (L.zres g = true → ∀ d, o.dst = some d → L.dirty f d = true)
 | _ => False
end Plan
section
variable {L : Plan} {A : Nat → Prop} {n : Bool}
theorem lk_callFunc (G : L.Good) {g : Nat} {args : Array Value} {f : Nat} {o : Oper} (hg : L.knows g args.size = true) (ha : L.TmOk A g args) (hk : ∀ t, t < args.size → L.holds g t = none) (hd : ∀ d, o.dst = some d → L.holds f d = none) (hz : L.zres g = true → ∀ d, o.dst = some d → L.dirty f d = true) : Lock L.P L.F n (L.Done f o) A (callFunc g args) := by
 obtain ⟨fn, fn', h1, h2, h3, h4, h5, h6, _⟩ := G.fns g (L.knows_known hg)
 unfold callFunc
 have hb : fn.body.isNone = false := by cases h : fn.body <;> simp_all
 have hb' : fn'.body.isNone = false := by cases h : fn'.body <;> simp_all
 refine lk_program ?_ ?_
 ·simp only [h1, h2, h3, h4, hb, hb', if_false, Bool.false_eq_true]
 ·simp only [h1, h3, hb, if_false, Bool.false_eq_true]
  exact lk_pure ⟨hg, ha, hk, hd, hz⟩
theorem lk_val {s : Sem Value} {f : Nat} {o : Oper} (h : Lock L.P L.F true OkV A s) (hd : ∀ d, o.dst = some d → L.holds f d = none) : Lock L.P L.F true (L.Done f o) A (do pure (.value (← s)) : Sem Next) :=
 Lock.bindN h fun A' _ v hv => lk_pure ⟨.inl hv, fun d g e1 e2 => by rw [hd d e1] at e2; cases e2⟩
theorem lk_valW {s : Sem Value} {f : Nat} {o : Oper} (h : Lock L.P L.F true OkW A s) (hz : L.dstD f o = true) (hd : ∀ d, o.dst = some d → L.holds f d = none) : Lock L.P L.F true (L.Done f o) A (do pure (.value (← s)) : Sem Next) :=
 Lock.bindN h fun A' _ v hv => lk_pure ⟨hv.imp id fun h => ⟨fun d e => by unfold Plan.dstD at hz; rw [e] at hz; exact hz, h⟩, fun d g e1 e2 => by rw [hd d e1] at e2; cases e2⟩
theorem Plan.TmOk.clean {f : Nat} {fr : Frame} (ht : L.TmOk A f fr.tmps) {x : Operand} (hx : L.opdC f x = true) : OkV A (fr.eval x) := by
 cases x with
 | tmp t =>
  show OkV A (fr.tmps.getD t undef)
  rw [Array.getD_eq_getD_getElem?]
  cases h : fr.tmps[t]? with
  | none => exact OkV.undef
  | some v =>
   refine (ht t v h).resolve_right fun h => ?_
   have hx : (!L.dirty f t) = true := hx
   rw [h.1] at hx
   cases hx
 | const v => exact okV_clean hx
 | func f => exact .func (by intro v hv; simp at hv) (by intro v hv; simp at hv)
 | global g => cases hx
theorem Plan.TmOk.any {f : Nat} {fr : Frame} (ht : L.TmOk A f fr.tmps) (t : Nat) : OkW A (fr.eval (.tmp t)) := by
 show OkW A (fr.tmps.getD t undef)
 rw [Array.getD_eq_getD_getElem?]
 cases h : fr.tmps[t]? with
 | none => exact .inl OkV.undef
 | some v => exact (ht t v h).imp id fun h => h.2
theorem Plan.TmOk.ofVs {g : Nat} {args : Array Value} (h : OkVs A args) : L.TmOk A g args := fun t v e => .inl (h.get e)
theorem op_lock (G : L.Good) {f : Nat} {o : Oper} {fr : Frame} (h : L.opB f o = true) (ht : L.TmOk A f fr.tmps) (hk : L.KInv f fr.tmps) : Lock L.P L.F true (L.Done f o) A (execOp fr.eval o) := by
 unfold Plan.opB at h
 simp only [Bool.and_eq_true] at h
 obtain ⟨⟨h1, h2⟩, h3⟩ := h
 have dst : (∀ g' fi ca, o.op ≠ .makeFunc (.func g') fi ca) → (∀ t x, o.op ≠ .makeInterface t x) → (∀ t, o.op ≠ .move (.tmp t)) → (∀ t, o.op ≠ .assign (.tmp t)) → ∀ d, o.dst = some d → L.holds f d = none := by
  intro n1 n0 n2 n3 d hd
  rw [hd] at h2
  dsimp only at h2
  cases hh : L.holds f d with
  | none => rfl
  | some g =>
   rw [hh] at h2
   dsimp only at h2
   split at h2
   ·rename_i e; exact absurd e (n1 _ _ _)
   ·rename_i e; exact absurd e (n0 _ _)
   ·rename_i e; exact absurd e (n2 _)
   ·rename_i e; exact absurd e (n3 _)
   ·cases h2
 have goF : ∀ (g : Nat) (as ca : Array Value), L.knows g (as.size + ca.size) = true → L.TmOk A g (as ++ ca) → (∀ t, t < as.size + ca.size → L.holds g t = none) → (∀ d, o.dst = some d → L.holds f d = none) → (L.zres g = true → ∀ d, o.dst = some d → L.dirty f d = true) →
   Lock L.P L.F true (L.Done f o) A (do let d ← Deferred.ofValue (.func (.func g) #[] ca) as; invoke d.target d.args) := by
  intro g as ca hg hca hh hd hz
  refine Lock.bind (Q := fun _ d => d = { target := .fn (.func g) ca, args := #[] ++ as }) (lk_pure rfl) fun d hd' => ?_
  subst hd'
  refine lk_callFunc G (by simpa using hg) (by simpa using hca) ?_ hd hz
  intro t ht
  exact hh t (by simpa using ht)
 by_cases hzon : L.zonB f o = true
 ·unfold Plan.zonB at hzon
  have any := fun t => ht.any t
  have clean := fun (x : Operand) (hx : L.opdC f x = true) => ht.clean hx
  have dsz : L.dstD f o = true → ∀ d, o.dst = some d → L.dirty f d = true := fun hz d e => by unfold Plan.dstD at hz; rw [e] at hz; exact hz
  have movedZ : ∀ t, (o.op = .move (.tmp t) ∨ o.op = .assign (.tmp t)) → L.dstD f o = true → Lock L.P L.F true (L.Done f o) A (Pure.pure (.value (fr.eval (.tmp t))) : Sem Next) := by
   intro t hx hz
   refine lk_pure ⟨(any t).imp id fun h => ⟨dsz hz, h⟩, fun d g e1 e2 => ?_⟩
   rw [e1] at h2
   dsimp only at h2
   rw [e2] at h2
   dsimp only at h2
   have e3 : L.holds f t = some g := by rcases hx with hx | hx <;> (rw [hx] at h2; simpa using h2)
   have e5 : fr.eval (.tmp t) = (fr.tmps[t]?).getD undef := by show fr.tmps.getD t undef = _; rw [Array.getD_eq_getD_getElem?]
   rw [e5]
   cases e4 : fr.tmps[t]? with
   | none => exact .inl rfl
   | some v => exact hk t g v e3 e4
  unfold execOp
  generalize hop : o.op = op at *
  cases op with
  | move x => cases x with
   | tmp t => exact movedZ t (.inl rfl) hzon
   | _ => cases hzon
  | assign x => cases x with
   | tmp t => exact movedZ t (.inr rfl) hzon
   | _ => cases hzon
  | load t x => cases x with
   | tmp x => exact lk_val (lk_loadAtW hzon (any x)) (dst (by simp) (by simp) (by simp) (by simp))
   | _ => cases hzon
  | slice t x lo hi mx => cases x with
   | tmp x => cases mx with
    | none =>
     simp only [Bool.and_eq_true] at hzon
     exact lk_valW (lk_sliceAtW hzon.1.2 (any x)) hzon.2 (dst (by simp) (by simp) (by simp) (by simp))
    | some m => cases hzon
   | _ => cases hzon
  | indexAddr t x i => cases x with
   | tmp x =>
    simp only [Bool.and_eq_true] at hzon
    exact lk_valW (lk_indexAtW hzon.1.2 (any x)) hzon.2 (dst (by simp) (by simp) (by simp) (by simp))
   | _ => cases hzon
  | call c =>
   have hd := dst (by simp) (by simp) (by simp) (by simp)
   obtain ⟨callee, args, ats⟩ := c
   dsimp only at hzon
   unfold resolve
   cases callee with
   | builtin b =>
    dsimp only at hzon ⊢
    refine Lock.bind (Q := fun _ d => d = { target := .builtin b ats o.type (args.map fun | .const _ => true | _ => false), args := args.map fr.eval }) (lk_pure rfl) fun d hd' => ?_
    subst hd'
    show Lock L.P L.F true (L.Done f o) A (builtin b ats o.type _ (args.map fr.eval))
    unfold builtin
    cases b <;> first | cases hzon | skip
    ·simp only [Bool.and_eq_true, beq_iff_eq] at hzon
     obtain ⟨hsz, hz⟩ := hzon
     obtain ⟨a, b, rfl⟩ : ∃ a b, args = #[a, b] := by
      obtain ⟨l⟩ := args
      match l, hsz with
      | [a, b], _ => exact ⟨a, b, rfl⟩
     simp only [List.getElem?_toArray, List.getElem?_cons_zero, List.getElem?_cons_succ] at hz
     simp only [Bool.and_eq_true] at hz
     obtain ⟨hb, hz1, hz2⟩ := hz
     cases b with
     | tmp b =>
      simp only [List.map_toArray, List.map_cons, List.map_nil]
      exact lk_val (lk_appendW hz2 (clean a hz1) (any b)) hd
     | _ => cases hb
    ·exact lk_val (lk_len hzon) hd
   | invoke r m => cases hzon
   | value x => cases x with
    | func g =>
     dsimp only at hzon ⊢
     simp only [Bool.and_eq_true, List.all_eq_true, List.mem_range, Option.isNone_iff_eq_none] at hzon
     obtain ⟨⟨hkn, hall⟩, hz⟩ := hzon
     refine goF g (args.map fr.eval) #[] (by simpa using hkn) ?_ (fun t ht' => (hall t (by simpa using ht')).1) hd fun hzr => dsz (by rw [hzr] at hz; simpa using hz)
     intro t v hv
     simp only [Array.append_empty, Array.getElem?_map] at hv
     obtain ⟨x, hx, rfl⟩ := Option.map_eq_some_iff.1 hv
     have hlt := (Array.getElem?_eq_some_iff.1 hx).1
     have h4 := (hall t hlt).2
     rw [hx] at h4
     simp only [Bool.or_eq_true, Bool.and_eq_true] at h4
     rcases h4 with h4 | ⟨h4, h5⟩
     ·exact .inl (clean x h4)
     ·cases x with
      | tmp x => exact (any x).imp id fun h => ⟨h4, h⟩
      | const v => exact .inl (okV_clean h5)
      | func g => exact .inl (.func (by intro v hv; simp at hv) (by intro v hv; simp at hv))
      | global g => cases h5
    | _ => cases hzon
  | _ => cases hzon
 have hzf : L.zonB f o = false := by simpa using hzon
 rw [hzf] at h1 h3
 simp only [Bool.or_false, Bool.false_or] at h1 h3
 have ev : ∀ x ∈ o.op.operands, OkV A (fr.eval x) := fun x hx => ht.clean ((Array.all_eq_true_iff_forall_mem.1 h1) x hx)
 clear hzon hzf
 unfold execOp
 generalize hop : o.op = op at *
 have moved : ∀ x, (op = .move x ∨ op = .assign x) → Lock L.P L.F true (L.Done f o) A (Pure.pure (.value (fr.eval x)) : Sem Next) := by
  intro x hx
  refine lk_pure ⟨.inl (ev x (by rcases hx with rfl | rfl <;> simp [Op.operands])), fun d g e1 e2 => ?_⟩
  rw [e1] at h2
  dsimp only at h2
  rw [e2] at h2
  dsimp only at h2
  have key : ∃ t, x = .tmp t ∧ L.holds f t = some g := by
   rcases hx with rfl | rfl <;> (cases x <;> first | exact ⟨_, rfl, by simpa using h2⟩ | cases h2)
  obtain ⟨t, rfl, e3⟩ := key
  have e5 : fr.eval (.tmp t) = (fr.tmps[t]?).getD undef := by show fr.tmps.getD t undef = _; rw [Array.getD_eq_getD_getElem?]
  rw [e5]
  cases e4 : fr.tmps[t]? with
  | none => exact .inl rfl
  | some v => exact hk t g v e3 e4
 cases op with
 | move x => exact moved x (.inl rfl)
 | assign x => exact moved x (.inr rfl)
 | pick c a b =>
  refine Lock.bind lk_asBool fun z _ => lk_pure ⟨.inl ?_, fun d g e1 e2 => by rw [dst (by simp) (by simp) (by simp) (by simp) d e1] at e2; cases e2⟩
  split
  ·exact ev _ (by simp [Op.operands])
  ·exact ev _ (by simp [Op.operands])
 | alloc t => exact lk_val (lk_alloc h3) (dst (by simp) (by simp) (by simp) (by simp))
 | box t x => exact lk_val (lk_box (ev _ (by simp [Op.operands]))) (dst (by simp) (by simp) (by simp) (by simp))
 | build t parts =>
  refine lk_val (lk_build h3 fun x hx => ?_).up (dst (by simp) (by simp) (by simp) (by simp))
  obtain ⟨y, hy, rfl⟩ := Array.mem_map.1 hx
  exact ev _ (by simp [Op.operands]; exact ⟨_, hy⟩)
 | buildSlice t len parts =>
  refine lk_val (lk_buildSlice (fun e he => by dsimp only at h3; rw [he] at h3; exact h3) fun x hx => ?_) (dst (by simp) (by simp) (by simp) (by simp))
  obtain ⟨y, hy, rfl⟩ := Array.mem_map.1 hx
  exact ev _ (by simp [Op.operands]; exact ⟨_, hy⟩)
 | load t a => exact lk_val (lk_loadAt (ev _ (by simp [Op.operands]))) (dst (by simp) (by simp) (by simp) (by simp))
 | store t a x => exact Lock.bind (lk_storeAt (ev _ (by simp [Op.operands])) (ev _ (by simp [Op.operands]))) fun _ _ => lk_pure trivial
 | unOp op t x => exact lk_val (lk_unary (ev _ (by simp [Op.operands]))) (dst (by simp) (by simp) (by simp) (by simp))
 | slice t x lo hi mx => exact lk_val (lk_sliceAt (ev _ (by simp [Op.operands]))) (dst (by simp) (by simp) (by simp) (by simp))
 | fieldAddr t x i => exact lk_val (lk_fieldAt (ev _ (by simp [Op.operands]))) (dst (by simp) (by simp) (by simp) (by simp))
 | field t x i => exact lk_val (lk_field (ev _ (by simp [Op.operands]))) (dst (by simp) (by simp) (by simp) (by simp))
 | indexAddr t x i => exact lk_val (lk_indexAt (ev _ (by simp [Op.operands]))) (dst (by simp) (by simp) (by simp) (by simp))
 | index t x i => exact lk_val (lk_index (ev _ (by simp [Op.operands]))) (dst (by simp) (by simp) (by simp) (by simp))
 | extract x i => exact lk_val (lk_extract (ev _ (by simp [Op.operands]))) (dst (by simp) (by simp) (by simp) (by simp))
 | convert s d x => exact lk_val (lk_convert h3 (ev _ (by simp [Op.operands]))) (dst (by simp) (by simp) (by simp) (by simp))
 | binOp op t x y u =>
  simp only [Bool.and_eq_true, Bool.not_eq_true'] at h3
  refine lk_val ?_ (dst (by simp) (by simp) (by simp) (by simp))
  exact Lock.bind (lk_eqGuard h3.2) fun _ _ => lk_binOp h3.1 (ev _ (by simp [Op.operands])) (ev _ (by simp [Op.operands]))
 | makeFunc fn fi ca =>
  cases fn with
  | func g' =>
   refine Lock.bind (Q := fun A v => v = .func (.func g') (fi.map fr.eval) (ca.map fr.eval) ∧ OkV A v) (lk_pure ⟨rfl, .func ?_ ?_⟩) fun v hv => lk_pure ⟨.inl hv.2, fun d g e1 e2 => ?_⟩
   ·intro v hv
    obtain ⟨y, hy, rfl⟩ := Array.mem_map.1 hv
    exact ev _ (by simp [Op.operands, hy])
   ·intro v hv
    obtain ⟨y, hy, rfl⟩ := Array.mem_map.1 hv
    exact ev _ (by simp [Op.operands, hy])
   ·rw [e1] at h2
    dsimp only at h2
    rw [e2] at h2
    simp only [Bool.and_eq_true, beq_iff_eq, Array.isEmpty_iff] at h2
    obtain ⟨rfl, rfl⟩ := h2
    exact .inr (.inl ⟨_, by simpa using hv.1⟩)
  | _ => cases h3
 | makeSlice t l c => exact lk_val (lk_makeSlice fun e he => by dsimp only at h3; rw [he] at h3; exact h3) (dst (by simp) (by simp) (by simp) (by simp))
 | makeInterface t x =>
  have hx := ev x (by simp [Op.operands])
  refine Lock.bind (Q := fun A v => OkV A v ∧ ∃ t x, v = .iface t x) ?_ fun v hv => lk_pure ⟨.inl hv.1, fun d g e1 e2 => ?_⟩
  ·unfold Instr.makeInterface
   refine Lock.bind lk_under fun i _ => ?_
   split
   ·exact lk_stuck
   ·exact lk_pure ⟨.iface hx, _, _, rfl⟩
  ·rw [e1] at h2
   dsimp only at h2
   rw [e2] at h2
   exact .inr (.inr ⟨by simpa using h2, hv.2⟩)
 | panic x =>
  cases x with
  | tmp t =>
   dsimp only at h3
   have e5 : fr.eval (.tmp t) = (fr.tmps[t]?).getD undef := by show fr.tmps.getD t undef = _; rw [Array.getD_eq_getD_getElem?]
   have key : Held 1000000 (fr.eval (.tmp t)) := by
    rw [e5]
    cases e4 : fr.tmps[t]? with
    | none => exact .inl rfl
    | some v => exact hk t 1000000 v (by simpa using h3) e4
   refine Lock.bind (Q := fun _ _ => False) ?_ fun _ h => h.elim
   unfold Instr.panic
   rcases key with e | ⟨ca, e⟩ | ⟨_, t', x', e⟩
   ·rw [e]; exact lk_stuck
   ·rw [e]; exact lk_stuck
   ·rw [e]; exact lk_goPanic
  | _ => cases h3
 | call c =>
  have hargs : OkVs A (c.args.map fr.eval) := by
   intro v hv
   obtain ⟨y, hy, rfl⟩ := Array.mem_map.1 hv
   exact ev _ (by simp [Op.operands, Call.operands, hy])
  have hd := dst (by simp) (by simp) (by simp) (by simp)
  dsimp only at h3
  unfold resolve
  obtain ⟨callee, args, ats⟩ := c
  dsimp only at h3 hargs ⊢
  cases callee with
  | builtin b =>
   dsimp only at h3 ⊢
   refine Lock.bind (Q := fun _ d => d = { target := .builtin b ats o.type (args.map fun | .const _ => true | _ => false), args := args.map fr.eval }) (lk_pure rfl) fun d hd' => ?_
   subst hd'
   show Lock L.P L.F true (L.Done f o) A (builtin b ats o.type _ (args.map fr.eval))
   unfold builtin
   cases b <;> first | cases h3 | skip
   ·exact lk_val (lk_append h3 hargs) hd
   ·exact lk_val (lk_len h3) hd
   ·refine lk_val ?_ hd
    unfold Builtin.max_
    split
    ·exact lk_stuck
    ·rename_i x l e
     have hx : ∀ v ∈ x :: l, OkV A v := fun v hv => hargs v (by rw [← Array.mem_toList_iff, e]; exact hv)
     exact (lk_fold (fun _ _ => lk_max2) l x (hx x (by simp)) fun v hv => hx v (by simp [hv])).up
   ·refine lk_val ?_ hd
    unfold Builtin.min_
    split
    ·exact lk_stuck
    ·rename_i x l e
     have hx : ∀ v ∈ x :: l, OkV A v := fun v hv => hargs v (by rw [← Array.mem_toList_iff, e]; exact hv)
     exact (lk_fold (fun _ _ => lk_min2) l x (hx x (by simp)) fun v hv => hx v (by simp [hv])).up
  | invoke r m => cases h3
  | value x =>
   dsimp only at h3 ⊢
   have go : ∀ (g : Nat) (ca : Array Value), L.knows g ((args.map fr.eval).size + ca.size) = true → OkVs A ca → (∀ t, t < (args.map fr.eval).size + ca.size → L.holds g t = none) → L.zres g = false →
     Lock L.P L.F true (L.Done f o) A (do let d ← Deferred.ofValue (.func (.func g) #[] ca) (args.map fr.eval); invoke d.target d.args) := fun g ca hg hca hh hz =>
    goF g _ ca hg (.ofVs (OkVs.append hargs hca)) hh hd fun e => by rw [hz] at e; cases e
   cases x with
   | func g =>
    dsimp only at h3
    simp only [Bool.and_eq_true, List.all_eq_true, List.mem_range, Option.isNone_iff_eq_none, Bool.not_eq_true'] at h3
    exact go g #[] (by simpa using h3.1.1) (by intro v hv; simp at hv) (fun t ht => h3.1.2 t (by simpa using ht)) h3.2
   | tmp t =>
    dsimp only at h3
    split at h3
    ·rename_i g hg
     simp only [Bool.and_eq_true, Bool.not_eq_true'] at h3
     have e5 : fr.eval (.tmp t) = (fr.tmps[t]?).getD undef := by show fr.tmps.getD t undef = _; rw [Array.getD_eq_getD_getElem?]
     have hv := ev (.tmp t) (by simp [Op.operands, Call.operands])
     rw [e5] at hv ⊢
     cases e4 : fr.tmps[t]? with
     | none => exact Lock.bind (Q := fun _ _ => False) lk_stuck fun _ h => h.elim
     | some v =>
      rw [e4] at hv
      rcases hk t g v hg e4 with rfl | ⟨ca, rfl⟩ | ⟨_, t', x', rfl⟩
      rotate_left 2
      ·exact Lock.bind (Q := fun _ _ => False) lk_stuck fun _ h => h.elim
      ·exact Lock.bind (Q := fun _ _ => False) lk_stuck fun _ h => h.elim
      ·refine go g ca (by
        have e : L.turned g = false := by
         cases ht : L.turned g with
         | false => rfl
         | true => rw [G.apart g ht] at h3; exact absurd h3.1.1 (by simp)
        simp [Plan.knows, Plan.known, h3.1.1, e]) ?_ (fun t _ => G.bare g h3.1.2 t) h3.2
       cases hv with | func _ h => exact h
    ·cases h3
   | const v => cases h3
   | global g => cases h3
 | _ => cases h3
end
end Go.Proofs.Ytnikfjfcbpeieaa.Lk
end
section
namespace Go.Proofs.Ytnikfjfcbpeieaa.Lk
open Go Go.Conc
set_option linter.unusedVariables false
set_option linter.unusedSimpArgs false
variable [Zone]
structure FrOk (L : Plan) (A : Nat → Prop) (fr : Frame) : Prop where
 plain : L.plain fr.fn = true
 tmps : L.TmOk A fr.fn fr.tmps
 k : L.KInv fr.fn fr.tmps
 todo : ∀ i ∈ fr.todo, L.itemB fr.fn i = true
 defers : fr.defers = []
 kind : fr.kind = .normal
 round : fr.roundOf = none
structure Susp (L : Plan) (A : Nat → Prop) (fr : Frame) : Prop extends FrOk L A fr where
 run : fr.mode = .run
 at_ : ∃ ops i rest k, fr.todo = .inRegion ops (i :: rest) :: k ∧ ∀ o d, ops[i]? = some o → o.dst = some d → L.holds fr.fn d = none
theorem Plan.TmOk.mono {L : Plan} {A A' : Nat → Prop} {f : Nat} {T : Array Value} (h : L.TmOk A f T) (hA : ∀ b, A b → A' b) : L.TmOk A' f T := fun t v e => (h t v e).imp (fun h => h.mono hA) id
theorem FrOk.mono {L : Plan} {A A' : Nat → Prop} {fr : Frame} (h : FrOk L A fr) (hA : ∀ b, A b → A' b) : FrOk L A' fr := ⟨h.plain, h.tmps.mono hA, h.k, h.todo, h.defers, h.kind, h.round⟩
theorem Susp.mono {L : Plan} {A A' : Nat → Prop} {fr : Frame} (h : Susp L A fr) (hA : ∀ b, A b → A' b) : Susp L A' fr := ⟨h.toFrOk.mono hA, h.run, h.at_⟩
def mkG (fr : Frame) (C : List Frame) : Goroutine := { frame := fr, callers := C, status := .running, dying := none }
inductive Out where
 | stay (fr : Frame)
 | enter (g : Nat) (args : Array Value)
def Out.gor (P : Program) (fr : Frame) (C : List Frame) : Out → Goroutine
 | .stay fr1 => mkG fr1 C
 | .enter g args => mkG (Frame.enter P g args .normal) (fr :: C)
def ZOut (L : Plan) (fr : Frame) : Prop := ∀ ops i rest k o d, fr.todo = .inRegion ops (i :: rest) :: k → ops[i]? = some o → o.dst = some d → L.dirty fr.fn d = true
def Out.Ok (L : Plan) (A : Nat → Prop) (fr : Frame) : Out → Prop
 | .stay fr1 => FrOk L A fr1 ∧ (fr1.mode = .run ∨ fr1.mode = .returning) ∧ fr1.fn = fr.fn
 | .enter g args => L.knows g args.size = true ∧ L.TmOk A g args ∧ (∀ t, t < args.size → L.holds g t = none) ∧ Susp L A fr ∧ (L.zres g = true → ZOut L fr)
def Alike (L : Plan) (A : Nat → Prop) (fr : Frame) (w' w w1' : World) (out : Out) : Prop :=
 w'.drawn ≤ w1'.drawn ∧ w1'.tape = w'.tape ∧ w'.heap.size ≤ w1'.heap.size ∧ (∀ b, b < w'.heap.size → ¬ A b → w1'.heap[b]? = w'.heap[b]?) ∧
 ((∀ j q, j < w1'.drawn - w'.drawn → w.tape (w.drawn + j) q = w'.tape (w'.drawn + j) q) →
   ∃ (A' : Nat → Prop) (w1 : World) (es1 : Array Event), (∀ C, stepG L.P true (mkG fr C) w = .go (out.gor L.P fr C) w1 es1) ∧ (∀ b, A b → A' b) ∧ (∀ b, A' b → A b ∨ w.heap.size ≤ b) ∧ (∀ b, w.heap.size ≤ b → b < w1.heap.size → A' b) ∧ out.Ok L A' fr ∧ Rel A' w1' w1 ∧ (w1.os = w.os ∧ w1.output = w.output) ∧
    w1.tape = w.tape ∧ w1.drawn = w.drawn + (w1'.drawn - w'.drawn) ∧ w.heap.size ≤ w1.heap.size ∧ (∀ b, b < w.heap.size → ¬ A b → w1.heap[b]? = w.heap[b]?) ∧ ∀ e ∈ es1, EvA A' w1.heap.size e)
section
variable {L : Plan} {A : Nat → Prop} {fr : Frame} {w' w w1' : World} {C' : List Frame}
theorem alike_ctl {fr1 : Frame} (hr : Rel A w' w) (h : ∀ C (w : World), stepG L.P true (mkG fr C) w = .go (mkG fr1 C) w #[]) (h1 : FrOk L A fr1) (hm : fr1.mode = .run ∨ fr1.mode = .returning) (hf : fr1.fn = fr.fn) : Alike L A fr w' w w' (.stay fr1) :=
 ⟨Nat.le_refl _, rfl, Nat.le_refl _, fun _ _ _ => rfl, fun _ => ⟨A, w, #[], fun C => h C w, fun _ h => h, fun _ => .inl, fun b h1 h2 => by omega, ⟨h1, hm, hf⟩, hr, ⟨rfl, rfl⟩, rfl, by omega, Nat.le_refl _, fun _ _ _ => rfl, by simp⟩⟩
theorem FrOk.to {fr : Frame} (h : FrOk L A fr) {todo : List Item} (ht : ∀ i ∈ todo, L.itemB fr.fn i = true) : FrOk L A { fr with todo } := ⟨h.plain, h.tmps, h.k, ht, h.defers, h.kind, h.round⟩
omit [Zone] in
theorem exitTo_sub {id : Nat} : ∀ {k k' : List Item}, exitTo id k = some k' → ∀ i ∈ k', i ∈ k
 | [], _, h => by cases h
 | x :: k, k', h => by
  have rec_ : exitTo id k = some k' → ∀ i ∈ k', i ∈ x :: k := fun h i hi => by simp [exitTo_sub h i hi]
  cases x <;> first | exact rec_ h | skip
  rename_i id'
  unfold exitTo at h
  split at h
  ·cases h; intro i hi; simp [hi]
  ·exact rec_ h
omit [Zone] in
theorem seen_sub {P : Program} {fn : FuncId} {es : Array Event} : ∀ e ∈ seen P fn es, e ∈ es := by
 unfold seen
 dsimp only
 rw [← Array.foldl_toList]
 have : ∀ (l : List Event) (x : Bool × Array Event), (∀ e ∈ x.2, e ∈ es) → (∀ e ∈ l, e ∈ es) → ∀ e ∈ (l.foldl (fun (x : Bool × Array Event) e => match e.loc with | .mark (.extern f) => ((P.funcs[f]?).any (·.norace), x.2) | _ => (x.1, if x.1 && !e.sync then x.2 else x.2.push e)) x).2, e ∈ es := by
  intro l
  induction l with
  | nil => intro x hx _; exact hx
  | cons a l ih =>
   intro x hx hl
   refine ih _ ?_ (fun e he => hl e (by simp [he]))
   have ha := hl a (by simp)
   dsimp only
   split
   ·exact hx
   ·dsimp only
    split
    ·exact hx
    ·intro e he
     rcases Array.mem_push.1 he with he | rfl
     ·exact hx e he
     ·exact ha
 exact this es.toList _ (by simp) (fun e he => by simpa using he)
section
variable {P : Program} {C : List Frame} {s : Sem Next} {ops : Array Oper} {i : Nat} {rest : List Nat} {k : List Item} {es : Array Event}
omit [Zone] in
theorem apply_value (hk : fr.kind = .normal) (ht : fr.todo = .inRegion ops (i :: rest) :: k) {v : Value} (h : s.runT P w #[] = (.ok (.value v) w1', es)) : stepG.apply P true fr C none s w = .go (mkG (fr.finish v) C) w1' (seen P fr.fn es) := by
 unfold stepG.apply
 have : (fr.kind == CallKind.early) = false := by rw [hk]; rfl
 have hr := Sem.runT_fst P s w #[]
 rw [h] at hr
 have he : Sem.events P s w #[] = es := by unfold Sem.events; rw [h]
 simp [ht, h, ← hr, he, this, mkG, GStep.after]
omit [Zone] in
theorem apply_skip (hk : fr.kind = .normal) (ht : fr.todo = .inRegion ops (i :: rest) :: k) (h : s.runT P w #[] = (.ok .skip w1', es)) : stepG.apply P true fr C none s w = .go (mkG (fr.finish undef) C) w1' (seen P fr.fn es) := by
 unfold stepG.apply
 have : (fr.kind == CallKind.early) = false := by rw [hk]; rfl
 have hr := Sem.runT_fst P s w #[]
 rw [h] at hr
 have he : Sem.events P s w #[] = es := by unfold Sem.events; rw [h]
 simp [ht, h, ← hr, he, this, mkG, GStep.after]
omit [Zone] in
theorem apply_enter (hk : fr.kind = .normal) (ht : fr.todo = .inRegion ops (i :: rest) :: k) {g : Nat} {args : Array Value} (h : s.runT P w #[] = (.ok (.enter g args) w1', es)) : stepG.apply P true fr C none s w = .go (mkG (Frame.enter P g args .normal) (fr :: C)) w1' (seen P fr.fn es) := by
 unfold stepG.apply
 have : (fr.kind == CallKind.early) = false := by rw [hk]; rfl
 have hr := Sem.runT_fst P s w #[]
 rw [h] at hr
 have he : Sem.events P s w #[] = es := by unfold Sem.events; rw [h]
 simp [ht, h, ← hr, he, this, mkG, GStep.after]
omit [Zone] in
theorem apply_halt (hk : fr.kind = .normal) (ht : fr.todo = .inRegion ops (i :: rest) :: k) {hh : Halt} (hmild : Mild hh) {w2 : World} (h : s.runT P w #[] = (.halt hh w2, es)) :
  (∃ o w3 es3, stepG.apply P true fr C none s w = .ended o w3 es3) ∨ ∃ v w3 es3, stepG.apply P true fr C none s w = .go (mkG (fr.raise [{ v, recovered := false }]) C) w3 es3 := by
 have : (fr.kind == CallKind.early) = false := by rw [hk]; rfl
 have hr := Sem.runT_fst P s w #[]
 rw [h] at hr
 have he : Sem.events P s w #[] = es := by unfold Sem.events; rw [h]
 rcases hmild with ⟨v, rfl⟩ | ⟨s', rfl⟩ | ⟨u, rfl, hu⟩
 ·refine .inr ⟨v, w2, seen P fr.fn es, ?_⟩
  unfold stepG.apply
  simp [ht, h, ← hr, he, this, mkG, GStep.after]
 ·refine .inl ⟨.stuck s' (fr.pos P), w2, seen P fr.fn es, ?_⟩
  unfold stepG.apply
  simp [ht, h, ← hr, he, this, GStep.after]
 ·refine .inl ⟨.unsupported u (fr.pos P), w2, seen P fr.fn es, ?_⟩
  unfold stepG.apply
  cases u <;> first | (simp [ht, h, ← hr, he, this, GStep.after]; done) | exact absurd rfl (hu _)
end
omit [Zone] in
theorem finish_fn (fr : Frame) (v : Value) : (fr.finish v).fn = fr.fn := by
 unfold Frame.finish
 split <;> rfl
theorem finish_ok (h : FrOk L A fr) {ops : Array Oper} {i : Nat} {rest : List Nat} {k : List Item} (ht : fr.todo = .inRegion ops (i :: rest) :: k) {v : Value} (hv : OkV A v ∨ ((∀ o d, ops[i]? = some o → o.dst = some d → L.dirty fr.fn d = true) ∧ ZV v)) (hd : ∀ o d g, ops[i]? = some o → o.dst = some d → L.holds fr.fn d = some g → Held g v) :
  FrOk L A (fr.finish v) ∧ (fr.finish v).mode = fr.mode := by
 have htd := h.todo
 rw [ht] at htd
 unfold Frame.finish
 rw [ht]
 dsimp only
 refine ⟨⟨h.plain, ?_, ?_, ?_, h.defers, h.kind, h.round⟩, rfl⟩
 ·dsimp only
  split
  ·rename_i d hod
   intro t x hx
   by_cases hdt : d = t
   ·subst hdt
    by_cases hlt : d < fr.tmps.size
    ·rw [Array.getElem?_setIfInBounds_self_of_lt hlt] at hx
     cases hx
     obtain ⟨o, ho, hod⟩ := Option.bind_eq_some_iff.1 hod
     exact hv.imp id fun h => ⟨h.1 o d ho hod, h.2⟩
    ·rw [Array.getElem?_eq_none (by simpa using hlt)] at hx; cases hx
   ·rw [Array.getElem?_setIfInBounds_ne hdt] at hx
    exact h.tmps t x hx
  ·exact h.tmps
 ·intro t g x ht' hx
  dsimp only at hx ht'
  cases ho : ops[i]? with
  | none => rw [ho] at hx; exact h.k t g x ht' hx
  | some o =>
   rw [ho] at hx
   cases hod : o.dst with
   | none => simp [hod] at hx; exact h.k t g x ht' hx
   | some d =>
    simp only [Option.bind_some, hod] at hx
    by_cases hdt : d = t
    ·subst hdt
     by_cases hlt : d < fr.tmps.size
     ·rw [Array.getElem?_setIfInBounds_self_of_lt hlt] at hx
      cases hx
      exact hd o d g ho hod ht'
     ·rw [Array.getElem?_eq_none (by simpa using hlt)] at hx; cases hx
    ·rw [Array.getElem?_setIfInBounds_ne hdt] at hx
     exact h.k t g x ht' hx
 ·intro x hx
  dsimp only at hx
  rcases List.mem_cons.1 hx with rfl | hx
  ·exact htd (.inRegion ops (i :: rest)) (by simp)
  ·exact htd x (by simp [hx])
theorem step_tri (G : L.Good) (h : FrOk L A fr) (hm : fr.mode = .run) (hr : Rel A w' w) (C' : List Frame) :
  (∃ o w2 es2, stepG L.P' true (mkG fr C') w' = .ended o w2 es2) ∨ (∃ v w2 es2, stepG L.P' true (mkG fr C') w' = .go (mkG (fr.raise [{ v, recovered := false }]) C') w2 es2) ∨
  ∃ (out : Out) (w1' : World) (es1' : Array Event), stepG L.P' true (mkG fr C') w' = .go (out.gor L.P' fr C') w1' es1' ∧ Alike L A fr w' w w1' out := by
 have ht := h.todo
 have hrd := h.round
 have run_ : ∀ (P : Program) C (w : World), stepG P true (mkG fr C) w = stepG.exec P true true fr C none w := by
  intro P C w; unfold stepG mkG; simp only [hm]
 rw [run_]
 cases hto : fr.todo with
 | nil =>
  have st : ∀ (P : Program) C (w : World), stepG.exec P true true fr C none w = .go (mkG { fr with mode := .returning } C) w #[] := by
   intro P C w; unfold stepG.exec; simp [hto, hrd, mkG]
  exact .inr (.inr ⟨.stay _, _, _, st _ _ _, alike_ctl hr (fun C w => by rw [run_, st]) ⟨h.plain, h.tmps, h.k, h.todo, h.defers, h.kind, h.round⟩ (.inr rfl) rfl⟩)
 | cons it k =>
  rw [hto] at ht
  have hk : ∀ i ∈ k, L.itemB fr.fn i = true := fun i hi => ht i (by simp [hi])
  have hit := ht it (by simp)
  have ctl : ∀ todo : List Item, (∀ (P : Program) C (w : World), stepG.exec P true true fr C none w = .go (mkG { fr with todo } C) w #[]) → (∀ i ∈ todo, L.itemB fr.fn i = true) →
    (∃ o w2 es2, stepG.exec L.P' true true fr C' none w' = .ended o w2 es2) ∨ (∃ v w2 es2, stepG.exec L.P' true true fr C' none w' = .go (mkG (fr.raise [{ v, recovered := false }]) C') w2 es2) ∨
     ∃ (out : Out) (w1' : World) (es1' : Array Event), stepG.exec L.P' true true fr C' none w' = .go (out.gor L.P' fr C') w1' es1' ∧ Alike L A fr w' w w1' out := by
   intro todo st hok
   exact .inr (.inr ⟨.stay _, _, _, st _ _ _, alike_ctl hr (fun C w => by rw [run_, st]) (h.to hok) (.inl hm) rfl⟩)
  have two : ∀ {a b : Item}, L.itemB fr.fn a = true → L.itemB fr.fn b = true → ∀ i ∈ a :: b :: k, L.itemB fr.fn i = true := by
   intro a b ha hb i hi
   rcases List.mem_cons.1 hi with rfl | hi
   ·exact ha
   ·rcases List.mem_cons.1 hi with rfl | hi
    ·exact hb
    ·exact hk i hi
  have one : ∀ {a : Item}, L.itemB fr.fn a = true → ∀ i ∈ a :: k, L.itemB fr.fn i = true := by
   intro a ha i hi
   rcases List.mem_cons.1 hi with rfl | hi
   ·exact ha
   ·exact hk i hi
  cases it with
  | inBlock id => exact ctl k (fun P C w => by unfold stepG.exec; simp [hto, mkG]) hk
  | inLoop c => exact ctl (.code c :: .inLoop c :: k) (fun P C w => by unfold stepG.exec; simp [hto, mkG]) (two hit hit)
  | inRegion ops todo =>
   have hops : ∀ o, o ∈ ops → L.opB fr.fn o = true := fun o ho => (Array.all_eq_true_iff_forall_mem.1 hit) o ho
   cases todo with
   | nil => exact ctl k (fun P C w => by unfold stepG.exec; simp [hto, mkG]) hk
   | cons i rest =>
    have hreg : ∀ r, L.itemB fr.fn (.inRegion ops r) = true := fun r => hit
    cases hw : ((ops[i]?).map (Region.wanted · (yielded ops fr.tmps))).getD false with
    | false =>
     have st : ∀ (P : Program) C (w : World), stepG.exec P true true fr C none w = .go (mkG (fr.finish undef) C) w #[] := by
      intro P C w
      unfold stepG.exec
      simp only [hto]
      rw [if_neg (by rw [hw]; simp)]
      rfl
     obtain ⟨f1, f2⟩ := finish_ok h hto (v := undef) (.inl .undef) fun _ _ _ _ _ _ => .inl rfl
     exact .inr (.inr ⟨.stay _, _, _, st _ _ _, alike_ctl hr (fun C w => by rw [run_, st]) f1 (.inl (f2.trans hm)) (finish_fn _ _)⟩)
    | true =>
     cases ho : ops[i]? with
     | none => rw [ho] at hw; cases hw
     | some o =>
      have hob := hops o (Array.mem_of_getElem? ho)
      have hoper : fr.oper? = some o := by unfold Frame.oper?; rw [hto]; exact ho
      have st : ∀ (P : Program) C (w : World), stepG.exec P true true fr C none w = stepG.apply P true fr C none (execOp fr.eval o) w := by
       intro P C w
       unfold stepG.exec
       simp only [hto]
       rw [if_pos hw]
       unfold stepG.oper
       simp only [hoper, hrd]
      rw [st]
      have hl := op_lock (A := A) G hob h.tmps h.k
      have hdst : ∀ (out : Next), L.Done fr.fn o A out → True := fun _ _ => trivial
      generalize execOp fr.eval o = s at st hl
      cases hrun : s.runT L.P' w' #[] with
      | mk r es0 =>
       cases r with
       | halt hh w2 => exact (apply_halt h.kind hto (halts hl _ _ _ _ _ _ hr hrun) hrun).elim .inl fun x => .inr (.inl x)
       | ok nx w2 =>
        obtain ⟨i1, i2, i3, i4, _⟩ := sim hl w' w #[] #[] nx w2 es0 hr hrun
        obtain ⟨_, _, _, i5⟩ := (sim hl w' { w with tape := w'.tape, drawn := w'.drawn } #[] #[] nx w2 es0 (hr.tape w'.tape w'.tape w'.drawn w'.drawn) hrun).2
        obtain ⟨A0, _, _, _, _, _, _, a4, _⟩ := i5 fun _ _ _ => rfl
        have hw2 : ∀ (out : Out), (∃ es, stepG.apply L.P' true fr C' none s w' = .go (out.gor L.P' fr C') w2 es) →
          (∀ (A' : Nat → Prop) (w1 : World) (es : Array Event), (∀ b, A b → A' b) → L.Done fr.fn o A' nx → s.runT L.P w #[] = (.ok nx w1, es) → (∀ C, stepG.apply L.P true fr C none s w = .go (out.gor L.P fr C) w1 (seen L.P fr.fn es)) ∧ out.Ok L A' fr) →
          (∃ o w3 es2, stepG.apply L.P' true fr C' none s w' = .ended o w3 es2) ∨ (∃ v w3 es2, stepG.apply L.P' true fr C' none s w' = .go (mkG (fr.raise [{ v, recovered := false }]) C') w3 es2) ∨
           ∃ (out : Out) (w1' : World) (es1' : Array Event), stepG.apply L.P' true fr C' none s w' = .go (out.gor L.P' fr C') w1' es1' ∧ Alike L A fr w' w w1' out := by
         rintro out ⟨es, hg⟩ hout
         refine .inr (.inr ⟨out, w2, es, hg, i1, i2, i3, i4, fun hT => ?_⟩)
         obtain ⟨_, _, _, _, j5⟩ := sim hl w' w #[] #[] nx w2 es0 hr hrun
         obtain ⟨A', w1, es1, b1, b2, b3, b11, b4, b5, b12, b6, b7, b8, b9, b10⟩ := j5 hT
         obtain ⟨c1, c2⟩ := hout A' w1 es1 b2 b4 b1
         exact ⟨A', w1, _, fun C => by rw [run_, st, c1], b2, b3, b11, c2, b5, b12, b6, b7, b8, b9, fun e he => (b10 e (seen_sub e he)).resolve_left (by simp)⟩
        cases nx with
        | value v =>
         refine hw2 (.stay (fr.finish v)) ⟨_, apply_value h.kind hto hrun⟩ fun A' w1 es hA hd hrn => ⟨fun C => apply_value h.kind hto hrn, ?_⟩
         obtain ⟨f1, f2⟩ := finish_ok (h.mono hA) hto (hd.1.imp id fun h => ⟨fun o' d e1 e2 => by rw [ho] at e1; cases e1; exact h.1 d e2, h.2⟩) fun o' d g e1 e2 e3 => by rw [ho] at e1; cases e1; exact hd.2 d g e2 e3
         exact ⟨f1, .inl (f2.trans hm), finish_fn _ _⟩
        | skip =>
         refine hw2 (.stay (fr.finish undef)) ⟨_, apply_skip h.kind hto hrun⟩ fun A' w1 es hA hd hrn => ⟨fun C => apply_skip h.kind hto hrn, ?_⟩
         obtain ⟨f1, f2⟩ := finish_ok (h.mono hA) hto (v := undef) (.inl .undef) fun _ _ _ _ _ _ => .inl rfl
         exact ⟨f1, .inl (f2.trans hm), finish_fn _ _⟩
        | enter g args =>
         refine hw2 (.enter g args) ⟨_, apply_enter h.kind hto hrun⟩ fun A' w1 es hA hd hrn => ⟨fun C => apply_enter h.kind hto hrn, hd.1, hd.2.1, hd.2.2.1, ⟨h.mono hA, hm, ops, i, rest, k, hto, fun o' d e1 e2 => by rw [ho] at e1; cases e1; exact hd.2.2.2.1 d e2⟩, fun hz ops' i' rest' k' o' d e0 e1 e2 => by rw [hto] at e0; cases e0; rw [ho] at e1; cases e1; exact hd.2.2.2.2 hz d e2⟩
        | _ => exact a4.elim
  | code c =>
   unfold Plan.itemB at hit
   cases c with
   | skip => exact ctl k (fun P C w => by unfold stepG.exec; simp [hto, mkG]) hk
   | seq a b =>
    unfold Plan.codeB at hit
    simp only [Bool.and_eq_true] at hit
    exact ctl (.code a :: .code b :: k) (fun P C w => by unfold stepG.exec; simp [hto, mkG]) (two hit.1 hit.2)
   | block id c => exact ctl (.code c :: .inBlock id :: k) (fun P C w => by unfold stepG.exec; simp [hto, mkG]) (two hit rfl)
   | loop c => exact ctl (.code c :: .inLoop c :: k) (fun P C w => by unfold stepG.exec; simp [hto, mkG]) (two hit hit)
   | ret =>
    have st : ∀ (P : Program) C (w : World), stepG.exec P true true fr C none w = .go (mkG { fr with mode := .returning } C) w #[] := by
     intro P C w; unfold stepG.exec; simp [hto, hrd, mkG]
    exact .inr (.inr ⟨.stay _, _, _, st _ _ _, alike_ctl hr (fun C w => by rw [run_, st]) ⟨h.plain, h.tmps, h.k, h.todo, h.defers, h.kind, h.round⟩ (.inr rfl) rfl⟩)
   | exit id =>
    cases hx : exitTo id k with
    | some k' => exact ctl k' (fun P C w => by unfold stepG.exec; simp [hto, mkG, hx]) fun i hi => hk i (exitTo_sub hx i hi)
    | none => exact .inl ⟨_, _, _, by unfold stepG.exec; simp only [hto, hx, hrd]; rfl⟩
   | cond c a b =>
    unfold Plan.codeB at hit
    simp only [Bool.and_eq_true] at hit
    cases hv : fr.eval c with
    | bool t =>
     refine ctl (.code (if t then a else b) :: k) (fun P C w => by unfold stepG.exec; simp [hto, mkG, hv]) (one ?_)
     cases t
     ·exact hit.2
     ·exact hit.1.2
    | _ => exact .inl ⟨_, _, _, by unfold stepG.exec; simp only [hto, hv]; rfl⟩
   | region id ops draw =>
    have hreg : ∀ r, L.itemB fr.fn (.inRegion ops r) = true := fun r => hit
    cases draw with
    | false => exact ctl (.inRegion ops (List.range ops.size) :: k) (fun P C w => by unfold stepG.exec; simp [hto, mkG]) (one (hreg _))
    | true =>
     have st : ∀ (P : Program) C (w : World), stepG.exec P true true fr C none w = .go (mkG { fr with todo := .inRegion ops (Region.schedule (P.follows .mixedOrders) ops (w.tape w.drawn (.order fr.fn id))) :: k } C) { w with drawn := w.drawn + 1 } #[] := by
      intro P C w
      unfold stepG.exec
      simp [hto, mkG, choose, Sem.run, Question.forced, Question.cut]
     refine .inr (.inr ⟨.stay _, _, _, st _ _ _, by simp, rfl, Nat.le_refl _, fun _ _ _ => rfl, fun hT => ?_⟩)
     have e0 : w.tape w.drawn (.order fr.fn id) = w'.tape w'.drawn (.order fr.fn id) := by simpa using hT 0 (.order fr.fn id) (by simp)
     refine ⟨A, { w with drawn := w.drawn + 1 }, #[], fun C => ?_, fun _ h => h, fun _ => .inl, fun b h1 h2 => (by dsimp only at h2; omega), ⟨h.to (one (hreg _)), .inl hm, rfl⟩, hr.tape _ _ _ _, ⟨rfl, rfl⟩, rfl, by simp, Nat.le_refl _, fun _ _ _ => rfl, by simp⟩
     rw [run_, st, e0]
     rfl
   | _ => cases hit
  | _ => cases hit
theorem step_run (G : L.Good) (h : FrOk L A fr) (hm : fr.mode = .run) (hr : Rel A w' w) {g1 : Goroutine} {es1' : Array Event} (e : stepG L.P' true (mkG fr C') w' = .go g1 w1' es1') :
  (∃ v, g1 = mkG (fr.raise [{ v, recovered := false }]) C') ∨ ∃ out : Out, g1 = out.gor L.P' fr C' ∧ Alike L A fr w' w w1' out := by
 rcases step_tri G h hm hr C' with ⟨o, w2, es2, h1⟩ | ⟨v, w2, es2, h1⟩ | ⟨out, w2, es2, h1, h2⟩
 ·rw [h1] at e; cases e
 ·rw [h1] at e; cases e; exact .inl ⟨v, rfl⟩
 ·rw [h1] at e; cases e; exact .inr ⟨out, rfl, h2⟩
theorem lk_results {P : Program} {F : Array Func} {fn : Func} {tmps : Array Value} (ht : ∀ r ∈ fn.results, OkV A (tmps.getD (match r with | .tmp t => t | .cell a _ => a) undef)) : Lock P F false OkV A (results fn tmps) := by
 have one : ∀ r : ResultVar, r ∈ fn.results → Lock P F false OkV A (match r with
   | .tmp t => (Pure.pure (tmps.getD t undef) : Sem Value)
   | .cell a t => do loadVar t (← asAddr (tmps.getD a undef))) := by
  intro r hr
  have get := ht r hr
  cases r with
  | tmp t => exact lk_pure get
  | cell a t =>
   refine Lock.bind (Q := fun A a => A a.block) ?_ fun a ha => lk_loadVar ha
   have := get
   unfold asAddr
   split
   ·rename_i e; rw [e] at this; cases this with | ptr h => exact lk_pure (h _ rfl)
   ·exact lk_runtimePanic (by first | trivial | simp [Soft])
   ·exact lk_stuck
 have all : ∀ l : List ResultVar, (∀ r ∈ l, r ∈ fn.results) → Lock P F false (fun A (vs : List Value) => ∀ v ∈ vs, OkV A v) A (l.mapM (fun r => match r with
   | .tmp t => (Pure.pure (tmps.getD t undef) : Sem Value)
   | .cell a t => do loadVar t (← asAddr (tmps.getD a undef)))) := by
  intro l
  induction l with
  | nil => exact fun _ => lk_pure (by simp)
  | cons r l ih =>
   intro hl
   rw [List.mapM_cons]
   refine Lock.bind (one r (hl r (by simp))) fun v hv => Lock.bind (ih fun r hr => hl r (by simp [hr])) fun vs hvs => lk_pure fun x hx => ?_
   rcases List.mem_cons.1 hx with rfl | hx
   ·exact hv
   ·exact hvs x hx
 have arr : Lock P F false OkVs A (fn.results.mapM (fun r => match r with
   | .tmp t => (Pure.pure (tmps.getD t undef) : Sem Value)
   | .cell a t => do loadVar t (← asAddr (tmps.getD a undef)))) := by
  rw [Array.mapM_eq_mapM_toList]
  exact Lock.bind (R := OkVs) (f := fun x : List Value => Pure.pure x.toArray) (all _ fun r hr => by simpa using hr) fun vs hvs => lk_pure fun v hv => hvs v (by simpa using hv)
 refine Lock.bind arr fun vs hvs => lk_pure ?_
 split
 ·exact hvs _ (by simp)
 ·exact .tuple fun v hv => hvs v hv
def AlikeR (L : Plan) (A : Nat → Prop) (fr : Frame) (w' w w1' : World) (v : Value) : Prop :=
 w'.drawn ≤ w1'.drawn ∧ w1'.tape = w'.tape ∧ w'.heap.size ≤ w1'.heap.size ∧ (∀ b, b < w'.heap.size → ¬ A b → w1'.heap[b]? = w'.heap[b]?) ∧
 ((∀ j q, j < w1'.drawn - w'.drawn → w.tape (w.drawn + j) q = w'.tape (w'.drawn + j) q) →
   ∃ (A' : Nat → Prop) (w1 : World) (es1 : Array Event), (∀ c C, stepG L.P true (mkG fr (c :: C)) w = .go (mkG (c.finish v) C) w1 es1) ∧ (∀ b, A b → A' b) ∧ (∀ b, A' b → A b ∨ w.heap.size ≤ b) ∧ (∀ b, w.heap.size ≤ b → b < w1.heap.size → A' b) ∧ (OkV A' v ∨ (L.zres fr.fn = true ∧ ZV v)) ∧ Rel A' w1' w1 ∧ (w1.os = w.os ∧ w1.output = w.output) ∧
    w1.tape = w.tape ∧ w1.drawn = w.drawn + (w1'.drawn - w'.drawn) ∧ w.heap.size ≤ w1.heap.size ∧ (∀ b, b < w.heap.size → ¬ A b → w1.heap[b]? = w.heap[b]?) ∧ ∀ e ∈ es1, EvA A' w1.heap.size e)
theorem ret_tri (G : L.Good) (hp : L.plain fr.fn = true) (hd : fr.defers = []) (hk : fr.kind = .normal) (hm : fr.mode = .returning) (ht : L.TmOk A fr.fn fr.tmps) (hr : Rel A w' w) :
  (∀ c C, ∃ o w2 es2, stepG L.P' true (mkG fr (c :: C)) w' = .ended o w2 es2) ∨
  ∃ (v : Value) (w1' : World) (es1' : Array Event), (∀ c C, stepG L.P' true (mkG fr (c :: C)) w' = .go (mkG (c.finish v) C) w1' es1') ∧ AlikeR L A fr w' w w1' v := by
 obtain ⟨fn, _, hfn, _, _, _, _⟩ := G.fns fr.fn (by simp [Plan.known, hp])
 have hfn' : L.P'.funcs[fr.fn]? = some fn := (G.same _ hp).trans hfn
 have hl : Lock L.P L.F false (fun A v => OkV A v ∨ (L.zres fr.fn = true ∧ ZV v)) A (results fn fr.tmps) := by
  have key : ∀ t, L.dirty fr.fn t = false → OkV A (fr.tmps.getD t undef) := fun t h0 => by
   rw [Array.getD_eq_getD_getElem?]
   cases e : fr.tmps[t]? with
   | none => exact OkV.undef
   | some v => exact (ht t v e).resolve_right fun h => by rw [h0] at h; cases h.1
  rcases G.res fr.fn fn hp hfn with hc | ⟨hz, t, hres⟩
  ·refine (lk_results fun r hr => ?_).mono fun _ _ _ h => .inl h
   have hc := hc r hr
   cases r with
   | tmp t => exact key t hc
   | cell a t => exact key a hc
  ·have e : results fn fr.tmps = Pure.pure (fr.tmps.getD t undef) := by simp [results, hres]
   rw [e]
   refine lk_pure ?_
   rw [Array.getD_eq_getD_getElem?]
   cases e : fr.tmps[t]? with
   | none => exact .inl OkV.undef
   | some v => exact (ht t v e).imp id fun h => ⟨hz, h.2⟩
 have ok_ : ∀ {P : Program} {w w1 : World} {v : Value} {es : Array Event}, P.funcs[fr.fn]? = some fn → (results fn fr.tmps).runT P w #[] = (.ok v w1, es) → ∀ c C, stepG P true (mkG fr (c :: C)) w = .go (mkG (c.finish v) C) w1 (seen P fr.fn es) := by
  intro P w w1 v es hP h c C
  have hq := Sem.runT_fst P (results fn fr.tmps) w #[]
  rw [h] at hq
  have he : Sem.events P (results fn fr.tmps) w #[] = es := by unfold Sem.events; rw [h]
  simp [stepG, mkG, hm, unwind, hd, hP, ← hq, he, doReturn, hk, GStep.after]
 cases hrun : (results fn fr.tmps).runT L.P' w' #[] with
 | mk r es0 =>
  cases r with
  | halt hh w2 =>
   refine .inl fun c C => ?_
   have hq := Sem.runT_fst L.P' (results fn fr.tmps) w' #[]
   rw [hrun] at hq
   have he : Sem.events L.P' (results fn fr.tmps) w' #[] = es0 := by unfold Sem.events; rw [hrun]
   cases hh with
   | stuck s => exact ⟨.stuck s (fr.pos L.P'), w2, seen L.P' fr.fn es0, by simp [stepG, mkG, hm, unwind, hd, hfn', ← hq, he, GStep.after, Frame.pos]⟩
   | _ => exact ⟨.stuck "return: the result variables cannot be read" (fr.pos L.P'), w2, seen L.P' fr.fn es0, by simp [stepG, mkG, hm, unwind, hd, hfn', ← hq, he, GStep.after, Frame.pos]⟩
  | ok v w2 =>
   refine .inr ⟨v, w2, seen L.P' fr.fn es0, ok_ hfn' hrun, ?_⟩
   obtain ⟨i1, i2, i3, i4, i5⟩ := sim hl w' w #[] #[] v w2 es0 hr hrun
   refine ⟨i1, i2, i3, i4, fun hT => ?_⟩
   obtain ⟨A', w1, es1, b1, b2, b3, b11, b4, b5, b12, b6, b7, b8, b9, b10⟩ := i5 hT
   exact ⟨A', w1, _, ok_ hfn b1, b2, b3, b11, b4, b5, b12, b6, b7, b8, b9, fun e he => (b10 e (seen_sub e he)).resolve_left (by simp)⟩
end
end Go.Proofs.Ytnikfjfcbpeieaa.Lk
end
section
namespace Go.Proofs.Ytnikfjfcbpeieaa.Lk
open Go Go.Conc
open Go.ConcM (OsLater)
set_option linter.unusedVariables false
set_option linter.unusedSimpArgs false
variable [Zone]
abbrev TapeF := Nat → Question → Nat
def solo (P : Program) (plain : Nat → Bool) (holds : Nat → Nat → Option Nat) (bare : Nat → Bool) (dirty : Nat → Nat → Bool) (zres : Nat → Bool) : Plan := ⟨P, P.funcs, plain, fun _ => false, holds, bare, fun _ => 0, dirty, zres⟩
def Chain (L : Plan) : Nat → List Frame → Prop
 | _, [] => True
 | g, f :: cs => (L.zres g = true → ZOut L f) ∧ Chain L f.fn cs
def c0 : Frame := { fn := 0, tmps := #[], todo := [.code (.refuse "")], defers := [{ target := .nil, args := #[] }], mode := .run, kind := .normal }
structure Cfg where
 fr : Frame
 cs : List Frame
 w : World
def Cfg.g (c : Cfg) : Goroutine := mkG c.fr (c.cs ++ [c0])
def tape (w : World) (T : TapeF) : World := { w with tape := T }
def Cfg.at (c : Cfg) (T : TapeF) : Cfg := { c with w := tape c.w T }
def LStep (P : Program) (T : TapeF) (c c1 : Cfg) : Prop := ∃ es, stepG P true c.g (tape c.w T) = .go c1.g c1.w es ∧ (c1.fr.mode = .run ∨ c1.fr.mode = .returning)
structure COk (L : Plan) (A : Nat → Prop) (c : Cfg) : Prop where
 fr : FrOk L A c.fr
 mode : c.fr.mode = .run ∨ c.fr.mode = .returning
 cs : ∀ f ∈ c.cs, Susp L A f
 rel : Rel A c.w c.w
 link : Chain L c.fr.fn c.cs
omit [Zone] in
theorem mkG_inj {f f' : Frame} {C C' : List Frame} (h : mkG f C = mkG f' C') : f = f' ∧ C = C' := by
 unfold mkG at h; injection h with h1 h2; exact ⟨h1, h2⟩
omit [Zone] in
theorem g_inj {c c1 : Cfg} (h : c.g = c1.g) : c.fr = c1.fr ∧ c.cs = c1.cs := by
 obtain ⟨h1, h2⟩ := mkG_inj h
 exact ⟨h1, List.append_cancel_right h2⟩
omit [Zone] in
theorem LStep.det {P : Program} {T : TapeF} {c c1 c2 : Cfg} (h : LStep P T c c1) (k : LStep P T c c2) : c1 = c2 := by
 obtain ⟨es, h, _⟩ := h
 obtain ⟨es2, k, _⟩ := k
 rw [h] at k
 injection k with k1 k2
 obtain ⟨e1, e2⟩ := g_inj k1
 cases c1; cases c2; simp_all
theorem world_eq {A A' : Nat → Prop} {w' w w1' w1 : World} (h0 : w'.heap = w.heap) (hr : Rel A' w1' w1) (hA : ∀ b, A b → A' b) (hnew : ∀ b, w.heap.size ≤ b → b < w1.heap.size → A' b) (o1 : ∀ b, b < w'.heap.size → ¬ A b → w1'.heap[b]? = w'.heap[b]?) (o2 : ∀ b, b < w.heap.size → ¬ A b → w1.heap[b]? = w.heap[b]?)
  (hos : w1'.os = w1.os) (hd : w'.drawn = w.drawn) (hle : w'.drawn ≤ w1'.drawn) (hd1 : w1.drawn = w.drawn + (w1'.drawn - w'.drawn)) : w1 = tape w1' w1.tape := by
 have hh : w1.heap = w1'.heap := by
  apply Array.ext_getElem?
  intro b
  by_cases h1 : A' b
  ·exact (hr.same b h1).symm
  ·by_cases h2 : b < w.heap.size
   ·have hn : ¬ A b := fun h => h1 (hA b h)
    rw [o2 b h2 hn, o1 b (by rw [h0]; exact h2) hn, h0]
   ·have : ¬ b < w1.heap.size := fun h3 => h1 (hnew b (by omega) h3)
    rw [Array.getElem?_eq_none (by omega), Array.getElem?_eq_none (by have := hr.size; omega)]
 unfold tape
 cases w1
 cases w1'
 have := hr.output
 simp_all
section
variable {P : Program} {plain : Nat → Bool} {holds : Nat → Nat → Option Nat} {bare : Nat → Bool} {dirty : Nat → Nat → Bool} {zres : Nat → Bool} {A : Nat → Prop}
theorem enter_ok {L : Plan} {A : Nat → Prop} (G : L.Good) {Q : Program} {g : Nat} {args : Array Value} (hp : L.plain g = true) (hQ : Q.funcs[g]? = L.P.funcs[g]?) (ha : L.TmOk A g args) (hk : ∀ t, t < args.size → L.holds g t = none) : FrOk L A (Frame.enter Q g args .normal) ∧ (Frame.enter Q g args .normal).mode = .run := by
 obtain ⟨fn, fn', h1, h2, h3, h4, h5, h6, _⟩ := G.fns g (by simp [Plan.known, hp])
 refine ⟨⟨hp, ?_, ?_, ?_, rfl, rfl, rfl⟩, rfl⟩
 ·intro t v hv
  have hv' : (args ++ Array.replicate ((((Q.funcs[g]?).map (·.ntmps)).getD 0) - args.size) undef)[t]? = some v := hv
  by_cases hlt : t < args.size
  ·rw [Array.getElem?_append_left hlt] at hv'
   exact ha t v hv'
  ·rw [Array.getElem?_append_right (by omega), Array.getElem?_replicate] at hv'
   split at hv'
   ·cases hv'; exact .inl OkV.undef
   ·cases hv'
 ·intro t g' v ht hv
  have hge : ¬ t < args.size := fun h => by have := hk t h; exact absurd (this.symm.trans ht) (by simp)
  have hv' : (args ++ Array.replicate ((((Q.funcs[g]?).map (·.ntmps)).getD 0) - args.size) undef)[t]? = some v := hv
  rw [Array.getElem?_append_right (by omega)] at hv'
  rw [Array.getElem?_replicate] at hv'
  split at hv'
  ·cases hv'; exact .inl rfl
  ·cases hv'
 ·intro i hi
  simp only [Frame.enter, List.mem_singleton] at hi
  subst hi
  rw [hQ, h1]
  cases hb : fn.body with
  | none => rw [hb] at h5; cases h5
  | some c =>
   simp only [Option.bind_some, hb, Option.getD_some]
   exact G.code g fn c hp h1 hb
theorem LStep.os (G : (solo P plain holds bare dirty zres).Good) {c c1 : Cfg} (h : COk (solo P plain holds bare dirty zres) A c) {T : TapeF} (e : LStep P T c c1) : c1.w.os = c.w.os := by
 obtain ⟨es, e, hm1⟩ := e
 have hrel2 : Rel A (tape c.w T) (tape c.w T) := h.rel.tape T T c.w.drawn c.w.drawn
 rcases h.mode with hm | hm
 ·rcases step_run (L := (solo P plain holds bare dirty zres)) G h.fr hm hrel2 (show stepG P true (mkG c.fr (c.cs ++ [c0])) (tape c.w T) = _ from e) with ⟨v, hp⟩ | ⟨out, hg, i1, i2, i3, i4, i5⟩
  ·obtain ⟨e1, _⟩ := mkG_inj (show mkG c1.fr (c1.cs ++ [c0]) = _ from hp)
   rw [e1] at hm1
   rcases hm1 with hm1 | hm1 <;> simp [Frame.raise, hm] at hm1
  ·obtain ⟨A', w1, es1, b1, b2, b3, b11, b4, b5, b12, b6⟩ := i5 fun j q hj => rfl
   have e' := (b1 (c.cs ++ [c0])).symm.trans (show stepG P true (mkG c.fr (c.cs ++ [c0])) (tape c.w T) = _ from e)
   injection e' with _ e2
   rw [← e2]
   exact b12.1
 ·rcases ret_tri (L := (solo P plain holds bare dirty zres)) (A := A) G h.fr.plain h.fr.defers h.fr.kind hm h.fr.tmps hrel2 with hend | ⟨v, w2, es2, hgo, i1, i2, i3, i4, i5⟩
  ·obtain ⟨o, w3, es3, h3⟩ : ∃ o w3 es3, stepG P true c.g (tape c.w T) = .ended o w3 es3 := by
    cases hcs : c.cs with
    | nil =>
     obtain ⟨o, w3, es3, h3⟩ := hend c0 []
     exact ⟨o, w3, es3, by unfold Cfg.g; rw [hcs]; exact h3⟩
    | cons f rest =>
     obtain ⟨o, w3, es3, h3⟩ := hend f (rest ++ [c0])
     exact ⟨o, w3, es3, by unfold Cfg.g; rw [hcs]; exact h3⟩
   rw [h3] at e
   cases e
  ·obtain ⟨A', w1, es1, b1, b2, b3, b11, b4, b5, b12, b6⟩ := i5 fun j q hj => rfl
   have key : ∀ f C, c.g = mkG c.fr (f :: C) → c1.w.os = c.w.os := fun f C hfc => by
    rw [hfc] at e
    have e' := (b1 f C).symm.trans (show stepG P true (mkG c.fr (f :: C)) (tape c.w T) = _ from e)
    injection e' with _ e2
    rw [← e2]
    exact b12.1
   cases hcs : c.cs with
   | nil => exact key c0 [] (by unfold Cfg.g; rw [hcs]; rfl)
   | cons f rest => exact key f (rest ++ [c0]) (by unfold Cfg.g; rw [hcs]; rfl)
theorem COk.step (G : (solo P plain holds bare dirty zres).Good) {c c1 : Cfg} (h : COk (solo P plain holds bare dirty zres) A c) {T : TapeF} (e : LStep P T c c1) :
  c.w.drawn ≤ c1.w.drawn ∧ c1.w.tape = T ∧ (∃ A', (∀ b, A b → A' b) ∧ COk (solo P plain holds bare dirty zres) A' c1) ∧ ∀ T2 : TapeF, (∀ i q, c.w.drawn ≤ i → i < c1.w.drawn → T2 i q = T i q) → LStep P T2 c (c1.at T2) := by
 have hos := LStep.os G h e
 obtain ⟨es, e, hm1⟩ := e
 have key : ∀ T2 : TapeF, (∀ i q, c.w.drawn ≤ i → i < c1.w.drawn → T2 i q = T i q) → c.w.drawn ≤ c1.w.drawn ∧ c1.w.tape = T ∧ (∃ A', (∀ b, A b → A' b) ∧ COk (solo P plain holds bare dirty zres) A' c1) ∧ LStep P T2 c (c1.at T2) := by
  intro T2 hT
  have hrel2 : Rel A (tape c.w T) (tape c.w T2) := h.rel.tape T T2 c.w.drawn c.w.drawn
  rcases h.mode with hm | hm
  · -- it runs
   rcases step_run (L := (solo P plain holds bare dirty zres)) G h.fr hm hrel2 (show stepG P true (mkG c.fr (c.cs ++ [c0])) (tape c.w T) = _ from e) with ⟨v, hp⟩ | ⟨out, hg, i1, i2, i3, i4, i5⟩
   ·obtain ⟨e1, _⟩ := mkG_inj (show mkG c1.fr (c1.cs ++ [c0]) = _ from hp)
    rw [e1] at hm1
    rcases hm1 with hm1 | hm1 <;> simp [Frame.raise, hm] at hm1
   ·obtain ⟨A', w1, es1, b1, b2, b3, b11, b4, b5, b12, b6, b7, b8, b9, b10⟩ := i5 fun j q hj => hT _ q (by show c.w.drawn ≤ c.w.drawn + j; omega) (by change j < c1.w.drawn - c.w.drawn at hj; show c.w.drawn + j < _; omega)
    have hw1 : w1 = tape c1.w T2 := by
     have := world_eq (w' := tape c.w T) (w := tape c.w T2) rfl b5 b2 b11 i4 b9 (hos.trans b12.1.symm) rfl i1 b7
     rw [this, b6]; rfl
    subst hw1
    have hself : Rel A' c1.w c1.w := ⟨rfl, fun _ _ => rfl, b5.ok, b5.inb, OsLater.refl _, rfl, fun b hb => ⟨rfl, (b5.z b hb).2⟩⟩
    refine ⟨i1, i2, ⟨A', b2, ?_⟩, es1, ?_, hm1⟩
    ·cases out with
     | stay fr1 =>
      obtain ⟨e1, e2⟩ := mkG_inj (show mkG c1.fr (c1.cs ++ [c0]) = mkG fr1 (c.cs ++ [c0]) from hg)
      have e3 := List.append_cancel_right e2
      exact ⟨by rw [e1]; exact b4.1, hm1, fun f hf => (h.cs f (e3 ▸ hf)).mono b2, hself, by rw [e1, e3, b4.2.2]; exact h.link⟩
     | enter g args =>
      obtain ⟨e1, e2⟩ := mkG_inj (show mkG c1.fr (c1.cs ++ [c0]) = mkG (Frame.enter P g args .normal) (c.fr :: (c.cs ++ [c0])) from hg)
      have e3 : c1.cs = c.fr :: c.cs := List.append_cancel_right (bs := [c0]) (by rw [e2]; rfl)
      have hp : (solo P plain holds bare dirty zres).plain g = true := by have := (solo P plain holds bare dirty zres).knows_known b4.1; simpa [Plan.known, solo] using this
      refine ⟨by rw [e1]; exact (enter_ok G hp rfl b4.2.1 b4.2.2.1).1, hm1, fun f hf => ?_, hself, by rw [e1, e3]; exact ⟨b4.2.2.2.2, h.link⟩⟩
      rw [e3] at hf
      rcases List.mem_cons.1 hf with rfl | hf
      ·exact b4.2.2.2.1
      ·exact (h.cs f hf).mono b2
    ·show stepG P true (mkG c.fr (c.cs ++ [c0])) (tape c.w T2) = .go (mkG c1.fr (c1.cs ++ [c0])) (tape c1.w T2) es1
     refine (b1 (c.cs ++ [c0])).trans ?_
     exact congrArg (fun g => GStep.go g (tape c1.w T2) es1) hg.symm
  · -- it leaves
   rcases ret_tri (L := (solo P plain holds bare dirty zres)) (A := A) G h.fr.plain h.fr.defers h.fr.kind hm h.fr.tmps hrel2 with hend | ⟨v, w2, es2, hgo, i1, i2, i3, i4, i5⟩
   ·cases hcs : c.cs with
    | nil =>
     obtain ⟨o, w3, es3, h3⟩ := hend c0 []
     have : c.g = mkG c.fr (c0 :: []) := by unfold Cfg.g; rw [hcs]; rfl
     rw [this, show stepG P true (mkG c.fr [c0]) (tape c.w T) = _ from h3] at e
     cases e
    | cons f rest =>
     obtain ⟨o, w3, es3, h3⟩ := hend f (rest ++ [c0])
     have : c.g = mkG c.fr (f :: (rest ++ [c0])) := by unfold Cfg.g; rw [hcs]; rfl
     rw [this, show stepG P true (mkG c.fr (f :: (rest ++ [c0]))) (tape c.w T) = _ from h3] at e
     cases e
   cases hcs : c.cs with
   | nil =>
    exfalso
    have e' : stepG P true (mkG c.fr (c0 :: [])) (tape c.w T) = .go (mkG c1.fr (c1.cs ++ [c0])) c1.w es := by
     have : c.g = mkG c.fr (c0 :: []) := by unfold Cfg.g; rw [hcs]; rfl
     rw [← this]; exact e
    rw [show stepG P true (mkG c.fr (c0 :: [])) (tape c.w T) = _ from hgo c0 []] at e'
    injection e' with e1 e2
    obtain ⟨_, e4⟩ := mkG_inj e1
    simp at e4
   | cons f rest =>
    have e' : stepG P true (mkG c.fr (f :: (rest ++ [c0]))) (tape c.w T) = .go (mkG c1.fr (c1.cs ++ [c0])) c1.w es := by
     have : c.g = mkG c.fr (f :: (rest ++ [c0])) := by unfold Cfg.g; rw [hcs]; rfl
     rw [← this]; exact e
    rw [show stepG P true (mkG c.fr (f :: (rest ++ [c0]))) (tape c.w T) = _ from hgo f (rest ++ [c0])] at e'
    injection e' with e1 e2
    obtain ⟨e3, e4⟩ := mkG_inj e1
    have e5 := List.append_cancel_right e4
    rw [e2] at i1 i2 i3 i4 i5
    obtain ⟨A', w1, es1, b1, b2, b3, b11, b4, b5, b12, b6, b7, b8, b9, b10⟩ := i5 fun j q hj => hT _ q (by show c.w.drawn ≤ c.w.drawn + j; omega) (by change j < c1.w.drawn - c.w.drawn at hj; show c.w.drawn + j < _; omega)
    have hw1 : w1 = tape c1.w T2 := by
     have := world_eq (w' := tape c.w T) (w := tape c.w T2) rfl b5 b2 b11 i4 b9 (hos.trans b12.1.symm) rfl i1 b7
     rw [this, b6]; rfl
    subst hw1
    have hs := (h.cs f (by rw [hcs]; simp)).mono b2
    have hlk0 := h.link
    rw [hcs] at hlk0
    obtain ⟨hlk, hlk2⟩ := hlk0
    obtain ⟨ops, i, rst, k, hto, hd⟩ := hs.at_
    obtain ⟨f1, f2⟩ := finish_ok hs.toFrOk hto (b4.imp id fun h => ⟨fun o d e1 e2 => hlk h.1 ops i rst k o d hto e1 e2, h.2⟩) fun o d g e1 e2 e3 => by rw [hd o d e1 e2] at e3; cases e3
    have hself : Rel A' c1.w c1.w := ⟨rfl, fun _ _ => rfl, b5.ok, b5.inb, OsLater.refl _, rfl, fun b hb => ⟨rfl, (b5.z b hb).2⟩⟩
    refine ⟨i1, i2, ⟨A', b2, ⟨by rw [← e3]; exact f1, hm1, fun x hx => (h.cs x (by rw [hcs]; simp [e5, hx])).mono b2, hself, by rw [← e3, ← e5, finish_fn]; exact hlk2⟩⟩, es1, ?_, hm1⟩
    show stepG P true (mkG c.fr (c.cs ++ [c0])) (tape c.w T2) = .go (mkG c1.fr (c1.cs ++ [c0])) (tape c1.w T2) es1
    rw [hcs, ← e3, ← e5]
    exact b1 f (rest ++ [c0])
 obtain ⟨k1, k2, k3, _⟩ := key T (fun _ _ _ _ => rfl)
 exact ⟨k1, k2, k3, fun T2 hT => (key T2 hT).2.2.2⟩
inductive Tr (P : Program) (Fin : Cfg → Prop) : Cfg → Prop
 | fin {c : Cfg} : Fin c → Tr P Fin c
 | step {c : Cfg} (next : TapeF → Cfg) : ¬ Fin c → (∀ T, LStep P T c (next T)) → (∀ T, Tr P Fin (next T)) → Tr P Fin c
inductive LSteps (P : Program) (T : TapeF) : Cfg → Cfg → Prop
 | refl {c : Cfg} : LSteps P T c c
 | head {c c1 c2 : Cfg} : LStep P T c c1 → LSteps P T c1 c2 → LSteps P T c c2
section bar
variable {P : Program} {Fin : Cfg → Prop}
omit [Zone] in
theorem bad_tape {c : Cfg} (h : ¬ Tr P Fin c) : ¬ Fin c ∧ ∃ T, ∀ c1, LStep P T c c1 → ¬ Tr P Fin c1 := by
 refine ⟨fun hf => h (.fin hf), ?_⟩
 refine Classical.byContradiction fun hn => ?_
 have hx : ∀ T, ∃ c1, LStep P T c c1 ∧ Tr P Fin c1 := fun T => Classical.byContradiction fun h2 => hn ⟨T, fun c1 hs ht => h2 ⟨c1, hs, ht⟩⟩
 exact h (.step (fun T => (hx T).choose) (fun hf => h (.fin hf)) (fun T => (hx T).choose_spec.1) fun T => (hx T).choose_spec.2)
open Classical in
noncomputable def badT (P : Program) (Fin : Cfg → Prop) (c : Cfg) : TapeF := if h : ¬ Tr P Fin c then (bad_tape h).2.choose else fun _ _ => 0
open Classical in
noncomputable def badNext (P : Program) (Fin : Cfg → Prop) (c : Cfg) : Cfg := if h : ∃ c1, LStep P (badT P Fin c) c c1 then h.choose else c
noncomputable def badSeq (P : Program) (Fin : Cfg → Prop) (c : Cfg) : Nat → Cfg
 | 0 => c
 | n + 1 => badNext P Fin (badSeq P Fin c n)
omit [Zone] in
theorem bad_seq {c : Cfg} (h : ¬ Tr P Fin c) : ∀ n, ¬ Tr P Fin (badSeq P Fin c n)
 | 0 => h
 | n + 1 => by
  have ih := bad_seq h n
  show ¬ Tr P Fin (badNext P Fin (badSeq P Fin c n))
  unfold badNext
  split
  ·rename_i hx
   have e : badT P Fin (badSeq P Fin c n) = (bad_tape ih).2.choose := by unfold badT; rw [dif_pos ih]
   have k : ∀ T c1, LStep P T (badSeq P Fin c n) c1 → T = (bad_tape ih).2.choose → ¬ Tr P Fin c1 := fun T c1 h1 h2 => (bad_tape ih).2.choose_spec _ (h2 ▸ h1)
   exact k _ _ hx.choose_spec e
  ·exact ih
def stuckAt (P : Program) (Fin : Cfg → Prop) (c : Cfg) : Prop := ¬ ∃ c1, LStep P (badT P Fin c) c c1
omit [Zone] in
theorem bad_stuck {c : Cfg} {n : Nat} (h : stuckAt P Fin (badSeq P Fin c n)) : badSeq P Fin c (n + 1) = badSeq P Fin c n := by
 show badNext P Fin _ = _
 unfold badNext
 rw [dif_neg h]
omit [Zone] in
theorem bad_stuck_all {c : Cfg} {n : Nat} (h : stuckAt P Fin (badSeq P Fin c n)) : ∀ k, badSeq P Fin c (n + k) = badSeq P Fin c n
 | 0 => rfl
 | k + 1 => by
  have ih := bad_stuck_all h k
  rw [← Nat.add_assoc, bad_stuck (by rw [ih]; exact h), ih]
omit [Zone] in
theorem bad_goes {c : Cfg} {n : Nat} (h : ¬ stuckAt P Fin (badSeq P Fin c n)) : LStep P (badT P Fin (badSeq P Fin c n)) (badSeq P Fin c n) (badSeq P Fin c (n + 1)) := by
 have h' : ∃ c1, LStep P (badT P Fin (badSeq P Fin c n)) (badSeq P Fin c n) c1 := Classical.not_not.1 h
 show LStep P _ _ (badNext P Fin _)
 unfold badNext
 rw [dif_pos h']
 exact h'.choose_spec
open Classical in
noncomputable def badTape (P : Program) (Fin : Cfg → Prop) (c : Cfg) : TapeF := fun i q =>
 if h : ∃ n, (badSeq P Fin c n).w.drawn ≤ i ∧ i < (badSeq P Fin c (n + 1)).w.drawn then badT P Fin (badSeq P Fin c h.choose) i q
 else if h2 : ∃ n, stuckAt P Fin (badSeq P Fin c n) then badT P Fin (badSeq P Fin c h2.choose) i q else 0
section
variable {plain : Nat → Bool} {holds : Nat → Nat → Option Nat} {bare : Nat → Bool} {dirty : Nat → Nat → Bool} {zres : Nat → Bool} {A : Nat → Prop}
theorem bad_ok (G : (solo P plain holds bare dirty zres).Good) {c : Cfg} (h : COk (solo P plain holds bare dirty zres) A c) : ∀ n, ∃ A', COk (solo P plain holds bare dirty zres) A' (badSeq P Fin c n)
 | 0 => ⟨A, h⟩
 | n + 1 => by
  obtain ⟨A', h'⟩ := bad_ok G h n
  by_cases hs : stuckAt P Fin (badSeq P Fin c n)
  ·rw [bad_stuck hs]; exact ⟨A', h'⟩
  ·obtain ⟨_, _, ⟨A2, _, h2⟩, _⟩ := h'.step G (bad_goes hs)
   exact ⟨A2, h2⟩
theorem bad_mono1 (G : (solo P plain holds bare dirty zres).Good) {c : Cfg} (h : COk (solo P plain holds bare dirty zres) A c) (n : Nat) : (badSeq P Fin c n).w.drawn ≤ (badSeq P Fin c (n + 1)).w.drawn := by
 obtain ⟨A', h'⟩ := bad_ok (Fin := Fin) G h n
 by_cases hs : stuckAt P Fin (badSeq P Fin c n)
 ·rw [bad_stuck hs]; exact Nat.le_refl _
 ·exact (h'.step G (bad_goes hs)).1
theorem bad_mono (G : (solo P plain holds bare dirty zres).Good) {c : Cfg} (h : COk (solo P plain holds bare dirty zres) A c) {n m : Nat} (hnm : n ≤ m) : (badSeq P Fin c n).w.drawn ≤ (badSeq P Fin c m).w.drawn := by
 induction hnm with
 | refl => exact Nat.le_refl _
 | step _ ih => exact Nat.le_trans ih (bad_mono1 G h _)
theorem badTape_at (G : (solo P plain holds bare dirty zres).Good) {c : Cfg} (h : COk (solo P plain holds bare dirty zres) A c) {n i : Nat} {q : Question} (h1 : (badSeq P Fin c n).w.drawn ≤ i) (h2 : i < (badSeq P Fin c (n + 1)).w.drawn) : badTape P Fin c i q = badT P Fin (badSeq P Fin c n) i q := by
 have hx : ∃ n, (badSeq P Fin c n).w.drawn ≤ i ∧ i < (badSeq P Fin c (n + 1)).w.drawn := ⟨n, h1, h2⟩
 unfold badTape
 rw [dif_pos hx]
 have hs := hx.choose_spec
 have : hx.choose = n := by
  rcases Nat.lt_trichotomy hx.choose n with hlt | he | hgt
  ·have := bad_mono (Fin := Fin) G h (show hx.choose + 1 ≤ n from hlt); omega
  ·exact he
  ·have := bad_mono (Fin := Fin) G h (show n + 1 ≤ hx.choose from hgt); omega
 rw [this]
theorem badTape_stuck (G : (solo P plain holds bare dirty zres).Good) {c : Cfg} (h : COk (solo P plain holds bare dirty zres) A c) {n i : Nat} {q : Question} (hs : stuckAt P Fin (badSeq P Fin c n)) (h1 : (badSeq P Fin c n).w.drawn ≤ i) : badTape P Fin c i q = badT P Fin (badSeq P Fin c n) i q := by
 have hx : ¬ ∃ n, (badSeq P Fin c n).w.drawn ≤ i ∧ i < (badSeq P Fin c (n + 1)).w.drawn := by
  rintro ⟨m, h2, h3⟩
  rcases Nat.lt_or_ge m n with hlt | hge
  ·have := bad_mono (Fin := Fin) G h (show m + 1 ≤ n from hlt); omega
  ·have e : ∀ k, n ≤ k → badSeq P Fin c k = badSeq P Fin c n := fun k hk => by
    have := bad_stuck_all hs (k - n)
    rwa [Nat.add_sub_cancel' hk] at this
   rw [e (m + 1) (by omega)] at h3
   omega
 have hy : ∃ n, stuckAt P Fin (badSeq P Fin c n) := ⟨n, hs⟩
 unfold badTape
 rw [dif_neg hx, dif_pos hy]
 have hz := hy.choose_spec
 have : badSeq P Fin c hy.choose = badSeq P Fin c n := by
  rcases Nat.le_total hy.choose n with hle | hle
  ·have := bad_stuck_all hz (n - hy.choose)
   rw [Nat.add_sub_cancel' hle] at this
   exact this.symm
  ·have := bad_stuck_all hs (hy.choose - n)
   rwa [Nat.add_sub_cancel' hle] at this
 rw [this]
def Cfg.m (c : Cfg) : Machine := lone c.fr (c.cs ++ [c0]) c.w
omit [Zone] in
theorem m_inj {c c1 : Cfg} (h : c.m = c1.m) : c = c1 := by
 unfold Cfg.m lone at h
 injection h with h1 h2
 have h3 := congrArg (fun a : Array Goroutine => a[0]?) h2
 simp at h3
 obtain ⟨e1, e2⟩ := h3
 cases c; cases c1; simp_all
omit [Zone] in
theorem step_m {T : TapeF} {c c1 : Cfg} (h : LStep P T c c1) : step P (c.at T).m = .next c1.m := by
 obtain ⟨es, h, _⟩ := h
 have h' : stepG P true { frame := c.fr, callers := c.cs ++ [c0], status := .running, dying := none } (tape c.w T) = .go { frame := c1.fr, callers := c1.cs ++ [c0], status := .running, dying := none } c1.w es := h
 exact step_lone_go ((congrArg GStep.bare h').trans rfl)
omit [Zone] in
theorem runN_succ_next {m m' : Machine} {N : Nat} (h : step P m = .next m') : runN P (N + 1) m = runN P N m' := by simp [runN, h]
omit [Zone] in
theorem runN_succ_ended {m : Machine} {N : Nat} {o : Outcome} {w : World} (h : step P m = .ended o w) : runN P (N + 1) m = .ended o w := by simp [runN, h]
omit [Zone] in
theorem panic_never {ch : List PanicEntry} : ∀ (N : Nat) (fr : Frame) (cs : List Frame) (w : World) (m : Machine), fr.mode = .panicking ch → fr.defers = [] → (P.funcs[fr.fn]?).isSome = true → (∀ f ∈ cs, f.mode = .run ∧ f.defers = [] ∧ (P.funcs[f.fn]?).isSome = true) →
  runN P N (lone fr (cs ++ [c0]) w) = .next m → ∀ x : Cfg, x.fr.mode = .returning → m ≠ x.m := by
 intro N
 induction N with
 | zero =>
  intro fr cs w m hm hd hf hcs h x hx e
  simp only [runN, Stepped.next.injEq] at h
  rw [← h] at e
  have := m_inj (c := ⟨fr, cs, w⟩) (c1 := x) e
  rw [← this] at hx
  rw [hm] at hx
  cases hx
 | succ N ih =>
  intro fr cs w m hm hd hf hcs h x hx e
  obtain ⟨fn, hfn⟩ := Option.isSome_iff_exists.1 hf
  have go : ∀ (c : Frame) (C : List Frame), step P (lone fr (c :: C) w) = .next (lone (c.raise ch) C w) := fun c C =>
   step_lone_go (by simp [stepG, unwind, Frame.catches, hm, hd, hfn])
  cases cs with
  | nil =>
   rw [show ([] : List Frame) ++ [c0] = c0 :: [] from rfl, runN_succ_next (go c0 [])] at h
   cases N with
   | zero =>
    simp only [runN, Stepped.next.injEq] at h
    rw [← h] at e
    unfold Cfg.m lone at e
    injection e with e1 e2
    have e3 := congrArg (fun a : Array Goroutine => a[0]?) e2
    simp at e3
   | succ N =>
    have : step P (lone (c0.raise ch) [] w) = .ended (.unsupported (.noEntry "machine/Return: a deferred call of a nil function value, made while the frame is unwinding") (Frame.pos P { c0.raise ch with defers := [] })) w :=
     step_lone_ended (by simp [stepG, unwind, c0, Frame.raise, callDeferred])
    rw [runN_succ_ended this] at h
    cases h
  | cons f cs =>
   rw [show (f :: cs) ++ [c0] = f :: (cs ++ [c0]) from rfl, runN_succ_next (go f (cs ++ [c0]))] at h
   obtain ⟨f1, f2, f3⟩ := hcs f (by simp)
   have hr : f.raise ch = { f with mode := .panicking ch } := by unfold Frame.raise; simp [f1]
   exact ih (f.raise ch) cs w m (by rw [hr]) (by rw [hr]; exact f2) (by rw [hr]; exact f3) (fun g hg => hcs g (by simp [hg])) h x hx e
theorem no_step (G : (solo P plain holds bare dirty zres).Good) {c : Cfg} (h : COk (solo P plain holds bare dirty zres) A c) {T : TapeF} (hn : ¬ ∃ c1, LStep P T c c1) {N : Nat} {x : Cfg} (hx : x.fr.mode = .returning) (e : runN P (N + 1) (c.at T).m = .next x.m) : False := by
 have hrel : Rel A (tape c.w T) (tape c.w T) := h.rel.tape T T c.w.drawn c.w.drawn
 have some_ : ∀ f, (solo P plain holds bare dirty zres).plain f = true → (P.funcs[f]?).isSome = true := fun f hf => by
  obtain ⟨fn, _, h1, _⟩ := G.fns f (by simp [Plan.known, hf])
  rw [show P.funcs[f]? = some fn from h1]; rfl
 rcases h.mode with hm | hm
 ·rcases step_tri (L := (solo P plain holds bare dirty zres)) G h.fr hm hrel (c.cs ++ [c0]) with ⟨o, w2, es2, h1⟩ | ⟨v, w2, es2, h1⟩ | ⟨out, w2, es2, h1, h2⟩
  ·have : step P (c.at T).m = .ended o w2 := step_lone_ended ((congrArg GStep.bare h1).trans rfl)
   rw [runN_succ_ended this] at e
   cases e
  ·have : step P (c.at T).m = .next (lone (c.fr.raise [{ v, recovered := false }]) (c.cs ++ [c0]) w2) := step_lone_go ((congrArg GStep.bare h1).trans rfl)
   rw [runN_succ_next this] at e
   have hr : c.fr.raise [{ v, recovered := false }] = { c.fr with mode := .panicking [{ v, recovered := false }] } := by unfold Frame.raise; simp [hm]
   refine panic_never (ch := [{ v, recovered := false }]) N _ c.cs w2 _ (by rw [hr]) (by rw [hr]; exact h.fr.defers) (by rw [hr]; exact some_ _ h.fr.plain) (fun f hf => ?_) e x hx rfl
   have hs := h.cs f hf
   exact ⟨hs.run, hs.defers, some_ _ hs.plain⟩
  ·refine hn ?_
   obtain ⟨_, _, _, _, i5⟩ := h2
   obtain ⟨A', w1, es1, _, _, _, _, b4, _⟩ := i5 fun _ _ _ => rfl
   cases out with
   | stay fr1 => exact ⟨⟨fr1, c.cs, w2⟩, es2, h1, b4.2.1⟩
   | enter g args => exact ⟨⟨Frame.enter P g args .normal, c.fr :: c.cs, w2⟩, es2, h1, .inl rfl⟩
 ·rcases ret_tri (L := (solo P plain holds bare dirty zres)) (A := A) G h.fr.plain h.fr.defers h.fr.kind hm h.fr.tmps hrel with hend | ⟨v, w2, es2, hgo, i1, i2, i3, i4, i5⟩
  ·obtain ⟨f, rest, hf⟩ : ∃ f rest, c.cs ++ [c0] = f :: rest := by
    cases hcs : c.cs with
    | nil => exact ⟨c0, [], rfl⟩
    | cons f rest => exact ⟨f, rest ++ [c0], rfl⟩
   obtain ⟨o, w3, es3, h3⟩ := hend f rest
   have hst : step P (c.at T).m = .ended o w3 := by
    have e2 : (c.at T).m = lone c.fr (f :: rest) (tape c.w T) := by unfold Cfg.m Cfg.at; dsimp only; rw [hf]
    rw [e2]
    exact step_lone_ended ((congrArg GStep.bare h3).trans rfl)
   rw [runN_succ_ended hst] at e
   cases e
  obtain ⟨A', w1, es1, b1, b2, b3, b11, b4, b5, _⟩ := i5 fun _ _ _ => rfl
  cases hcs : c.cs with
  | nil =>
   have hst : step P (c.at T).m = .next (lone (c0.finish v) [] w2) := by
    have e2 : (c.at T).m = lone c.fr (c0 :: []) (tape c.w T) := by unfold Cfg.m Cfg.at; dsimp only; rw [hcs]; rfl
    rw [e2]
    exact step_lone_go ((congrArg GStep.bare (hgo c0 [])).trans rfl)
   rw [runN_succ_next hst] at e
   cases N with
   | zero =>
    simp only [runN, Stepped.next.injEq] at e
    unfold Cfg.m lone at e
    injection e with e1 e2
    have e3 := congrArg (fun a : Array Goroutine => a[0]?) e2
    simp at e3
   | succ N =>
    have hs : ∃ u, (stepG P true { frame := c0.finish v, callers := [], status := .running, dying := none } w2).bare = .ended (.unsupported u (Frame.pos P c0)) w2 := by
     exact ⟨_, rfl⟩
    obtain ⟨u, hs⟩ := hs
    have := step_lone_ended hs
    rw [runN_succ_ended this] at e
    cases e
  | cons f rest =>
   refine hn ⟨⟨f.finish v, rest, w2⟩, es2, ?_, ?_⟩
   ·have : c.g = mkG c.fr (f :: (rest ++ [c0])) := by unfold Cfg.g; rw [hcs]; rfl
    rw [this]
    exact hgo f (rest ++ [c0])
   ·have hs := (h.cs f (by rw [hcs]; simp)).mono b2
    have hlk0 := h.link
    rw [hcs] at hlk0
    obtain ⟨hlk, _⟩ := hlk0
    obtain ⟨ops, i, rst, k, hto, hd⟩ := hs.at_
    obtain ⟨_, f2⟩ := finish_ok hs.toFrOk hto (b4.imp id fun h => ⟨fun o d e1 e2 => hlk h.1 ops i rst k o d hto e1 e2, h.2⟩) fun o d g e1 e2 e3 => by rw [hd o d e1 e2] at e3; cases e3
    exact .inl (f2.trans hs.run)
theorem bar (G : (solo P plain holds bare dirty zres).Good) {c : Cfg} (h : COk (solo P plain holds bare dirty zres) A c) (hat : ∀ (c : Cfg) (T : TapeF), Fin (c.at T) → Fin c) (hret : ∀ c, Fin c → c.fr.mode = .returning)
  (hall : ∀ T, ∃ N c', runN P N (c.at T).m = .next c'.m ∧ Fin c') : Tr P Fin c := by
 refine Classical.byContradiction fun hbad => ?_
 obtain ⟨N, c', hrun, hfin⟩ := hall (badTape P Fin c)
 have hs := bad_seq hbad
 have follow : ∀ n, (∀ m, m < n → ¬ stuckAt P Fin (badSeq P Fin c m)) → ∀ k, runN P (n + k) (c.at (badTape P Fin c)).m = runN P k ((badSeq P Fin c n).at (badTape P Fin c)).m := by
  intro n
  induction n with
  | zero => intro _ k; rw [Nat.zero_add]; rfl
  | succ n ih =>
   intro hm k
   have e : n + 1 + k = n + (k + 1) := by omega
   rw [e, ih (fun m hlt => hm m (by omega)) (k + 1)]
   obtain ⟨A', h'⟩ := bad_ok (Fin := Fin) G h n
   have hgo := bad_goes (hm n (by omega))
   have hst := (h'.step G hgo).2.2.2 (badTape P Fin c) fun i q h1 h2 => badTape_at G h h1 h2
   exact runN_succ_next (step_m hst)
 by_cases hst : ∃ n, n < N ∧ stuckAt P Fin (badSeq P Fin c n)
 · -- the first that is stuck
  have first : ∀ n, n < N → stuckAt P Fin (badSeq P Fin c n) → ∃ m, m < N ∧ stuckAt P Fin (badSeq P Fin c m) ∧ ∀ k, k < m → ¬ stuckAt P Fin (badSeq P Fin c k) := by
   intro n
   induction n using Nat.strongRecOn with
   | _ n ih =>
    intro hn hsn
    by_cases hk : ∃ k, k < n ∧ stuckAt P Fin (badSeq P Fin c k)
    ·obtain ⟨k, hk1, hk2⟩ := hk
     exact ih k hk1 (by omega) hk2
    ·exact ⟨n, hn, hsn, fun k hk1 hk2 => hk ⟨k, hk1, hk2⟩⟩
  obtain ⟨n0, h0, hsn0⟩ := hst
  obtain ⟨n, hn, hsn, hfirst⟩ := first n0 h0 hsn0
  have hf := follow n hfirst (N - n)
  rw [Nat.add_sub_cancel' (by omega), hrun] at hf
  obtain ⟨A', h'⟩ := bad_ok (Fin := Fin) G h n
  have hN : N - n = (N - n - 1) + 1 := by omega
  rw [hN] at hf
  refine no_step G h' (T := badTape P Fin c) ?_ (hret _ hfin) hf.symm
  rintro ⟨c1, hc1⟩
  refine hsn ⟨_, (h'.step G hc1).2.2.2 (badT P Fin (badSeq P Fin c n)) fun i q h1 _ => ?_⟩
  exact (badTape_stuck G h hsn h1).symm
 ·have hf := follow N (fun m hm hsm => hst ⟨m, hm, hsm⟩) 0
  rw [Nat.add_zero, hrun] at hf
  simp only [runN, Stepped.next.injEq] at hf
  have := m_inj hf
  rw [this] at hfin
  exact hs N (.fin (hat _ _ hfin))
end
end bar
end
end Go.Proofs.Ytnikfjfcbpeieaa.Lk
end
section
namespace Go.Proofs.Ytnikfjfcbpeieaa.Lk
open Go Go.Conc
open Go.ConcM (OsLater)
open Go.ConcN (sumTo upd sumTo_upd upd_ne upd_same)
set_option linter.unusedVariables false
set_option linter.unusedSimpArgs false
variable [Zone]
section
variable {P : Program} {Shun : Loc → Prop} {B : Nat}
omit [Zone] in
theorem turn {a : Goroutine} (hrun : a.status = .running) : ∀ (M : Nat) (gs : Array Goroutine) (w : World) (sl : Option (Nat × Nat)) (t : Trace) (q : Nat → Nat), sumTo gs.size q ≤ M → gs[0]? = some a → Leavers P t gs q → Past Shun B t →
  ∃ (N : Nat) (gs' : Array Goroutine) (d0 : Nat) (sl' : Option (Nat × Nat)) (t' : Trace) (q' : Nat → Nat) (d : Nat) (sl2 : Option (Nat × Nat)),
   runNT P N (crowd gs w sl) t = (.next (crowd gs' (w.at d0) sl'), t') ∧ gs'.size = gs.size ∧ gs'[0]? = some a ∧ Leavers P t' gs' q' ∧ Past Shun B t' ∧ stepT P (crowd gs' (w.at d0) sl') = runT P (crowd gs' (w.at d) sl2) 0 := by
 intro M
 induction M with
 | zero =>
  intro gs w sl t q hM h0 hL hP
  have haw : ∀ g ∈ gs, awake g := by
   intro g hg
   obtain ⟨i, hi, rfl⟩ := Array.mem_iff_getElem.1 hg
   rcases Nat.eq_zero_or_pos i with rfl | hpos
   ·have : gs[0] = a := by simpa [Array.getElem?_eq_getElem hi] using h0
    rw [this]; exact awake_of (.inl hrun)
   ·exact awake_of ((hL.old i _ hpos (Array.getElem?_eq_getElem hi)).status.elim .inl fun x => .inr (.inr x))
  obtain ⟨i, g, d, sl', hi, hg, hst⟩ := crowd_pick (P := P) (w := w) (sl := sl) haw ⟨0, a, h0, hrun⟩
  rcases Nat.eq_zero_or_pos i with rfl | hpos
  ·exact ⟨0, gs, w.drawn, sl, t, q, d, sl', rfl, rfl, h0, hL, hP, hst⟩
  ·have hq := hL.old i g hpos hi
   have hlt : i < gs.size := (Array.getElem?_eq_some_iff.1 hi).1
   have : q i = 0 := by
    have h5 : sumTo gs.size (upd q i 0) + q i = sumTo gs.size q + 0 := by
     have := sumTo_upd q 0 id hlt
     simpa using this
    omega
   rw [this] at hq
   rw [hq.1] at hg; cases hg
 | succ M ih =>
  intro gs w sl t q hM h0 hL hP
  have haw : ∀ g ∈ gs, awake g := by
   intro g hg
   obtain ⟨i, hi, rfl⟩ := Array.mem_iff_getElem.1 hg
   rcases Nat.eq_zero_or_pos i with rfl | hpos
   ·have : gs[0] = a := by simpa [Array.getElem?_eq_getElem hi] using h0
    rw [this]; exact awake_of (.inl hrun)
   ·exact awake_of ((hL.old i _ hpos (Array.getElem?_eq_getElem hi)).status.elim .inl fun x => .inr (.inr x))
  obtain ⟨i, g, d, sl', hi, hg, hst⟩ := crowd_pick (P := P) (w := w) (sl := sl) haw ⟨0, a, h0, hrun⟩
  rcases Nat.eq_zero_or_pos i with rfl | hpos
  ·exact ⟨0, gs, w.drawn, sl, t, q, d, sl', rfl, rfl, h0, hL, hP, hst⟩
  · -- a leaver slips
   have hq := hL.old i g hpos hi
   have hi0 : (i == 0) = false := by simp; omega
   have hlt : i < gs.size := (Array.getElem?_eq_some_iff.1 hi).1
   cases hqi : q i with
   | zero => rw [hqi] at hq; rw [hq.1] at hg; cases hg
   | succ k =>
    rw [hqi] at hq
    rcases hq with ⟨hf, _⟩ | ⟨_, g', es, hm, hstp, hq'⟩
    ·rw [hf] at hg; cases hg
    have hrunT := runT_crowd_go (P := P) (sl := sl') (i := i) hi (by rw [hi0]; exact hstp (w.at d))
    have hsz : ((gs.map (woken P g g' (w.at d))).setIfInBounds i g').size = gs.size := by simp
    have hsum : sumTo gs.size (upd q i k) + (k + 1) = sumTo gs.size q + k := by
     have := sumTo_upd q k id hlt
     simpa [hqi] using this
    obtain ⟨N, gs', d0, sl'', t', q', d2, sl2, hr, hs', h0', hL', hP', hS⟩ := ih ((gs.map (woken P g g' (w.at d))).setIfInBounds i g') (w.at d) sl' (t ++ MemOp.ofEvents i g.frame.fn g.frame.place es) (upd q i k) (by rw [hsz]; omega)
     (by
       have hne : i ≠ 0 := by omega
       rw [Array.getElem?_setIfInBounds_ne hne, Array.getElem?_map, h0]
       simp [woken_run hrun])
     ⟨fun j x hj hx => by
       by_cases hji : i = j
       ·subst hji
        rw [Array.getElem?_setIfInBounds_self_of_lt (by simpa using hlt)] at hx
        obtain rfl := Option.some.inj hx
        rw [upd_same, Deaf_own]
        exact hq'
       ·rw [Array.getElem?_setIfInBounds_ne hji, Array.getElem?_map] at hx
        obtain ⟨y, hy, rfl⟩ := Option.map_eq_some_iff.1 hx
        have hqj := hL.old j y hj hy
        rw [woken_quitsD hqj, upd_ne q k (Ne.symm hji), Deaf_other t hji _ (fun op hop => by obtain ⟨e, _, rfl⟩ := Go.Conc.mem_ofEvents hop; rfl)]
        exact hqj, fun j hj => by
       rw [Deaf_other t (g' := i) (by simp at hj; omega) _ (fun op hop => by obtain ⟨e, _, rfl⟩ := Go.Conc.mem_ofEvents hop; rfl)]
       exact hL.above j (by simpa using hj)⟩
     (hP.mute (by omega) hm)
    exact ⟨N + 1, gs', d0, sl'', t', q', d2, sl2, by simp only [runNT, hst, hrunT]; exact hr, hs'.trans hsz, h0', hL', hP', hS⟩
omit [Zone] in
theorem own_step {gs : Array Goroutine} {a a' : Goroutine} {w w' : World} {sl : Option (Nat × Nat)} {t : Trace} {q : Nat → Nat} {es : Array Event} {B' : Nat} (h0 : gs[0]? = some a) (hL : Leavers P t gs q) (hP : Past Shun B t)
  (hgo : stepG P true a w = .go a' w' es) (hB : B ≤ B') (hes : ∀ e ∈ es, EvL Shun B' e) :
  ∃ (gs' : Array Goroutine) (t' : Trace), runT P (crowd gs w sl) 0 = (.next (crowd gs' w' sl), t') ∧ gs'.size = gs.size ∧ gs'[0]? = some a' ∧ Leavers P (t ++ t') gs' q ∧ Past Shun B' (t ++ t') := by
 have hrunT := runT_crowd_go (P := P) (sl := sl) (i := 0) h0 (show stepG P (0 == 0) a w = _ from hgo)
 have hlt : 0 < gs.size := (Array.getElem?_eq_some_iff.1 h0).1
 refine ⟨_, _, hrunT, by simp, by simp [hlt], ⟨fun j x hj hx => ?_, fun j hj => ?_⟩, (hP.mono hB).own hes⟩
 ·have hne : 0 ≠ j := by omega
  rw [Array.getElem?_setIfInBounds_ne hne, Array.getElem?_map] at hx
  obtain ⟨y, hy, rfl⟩ := Option.map_eq_some_iff.1 hx
  have hq := hL.old j y hj hy
  rw [woken_quitsD hq, Deaf_other t (by omega) _ (fun op hop => by obtain ⟨e, _, rfl⟩ := Go.Conc.mem_ofEvents hop; rfl)]
  exact hq
 ·rw [Deaf_other t (g' := 0) (by simp at hj; omega) _ (fun op hop => by obtain ⟨e, _, rfl⟩ := Go.Conc.mem_ofEvents hop; rfl)]
  exact hL.above j (by simpa using hj)
def Ends (P : Program) (Post : Value → World → Prop) (m : Machine) (t : Trace) : Prop :=
 ∃ N last o w' t', runNT P (N + 1) m t = (.ended o w', t') ∧ runN P N m = .next last ∧ step P last = .ended o w' ∧ Good P Post last o w' t'
omit [Zone] in
theorem Ends.before {Post : Value → World → Prop} {m m' : Machine} {t t' : Trace} {N : Nat} (h : runNT P N m t = (.next m', t')) (k : Ends P Post m' t') : Ends P Post m t := by
 obtain ⟨K, last, o, w', t2, k1, k2, k3, k4⟩ := k
 refine ⟨N + K, last, o, w', t2, ?_, ?_, k3, k4⟩
 ·rw [Nat.add_assoc, runNT_add, h]; exact k1
 ·rw [runN_add, ← runNT_fst P _ _ t, h]; exact k2
end
def ShB (S : Nat → Prop) : Loc → Prop := fun l => ∃ a, l = .cell a ∧ S a.block
structure Com (L : Plan) (S A : Nat → Prop) (c : Cfg) (gs : Array Goroutine) (w : World) (t : Trace) (q : Nat → Nat) : Prop where
 g0 : gs[0]? = some (mkG c.fr c.cs)
 leavers : Leavers L.P t gs q
 past : Past (ShB S) w.heap.size t
 fr : FrOk L A c.fr
 mode : c.fr.mode = .run ∨ c.fr.mode = .returning
 cs : ∀ f ∈ c.cs, Susp L A f
 rel : Rel A c.w w
 apart : ∀ b, S b → (¬ A b ∧ Zone.blk ≠ some b) ∧ b < w.heap.size
 link : Chain L c.fr.fn c.cs
structure Kept (W : World) (A0 A : Nat → Prop) (w : World) : Prop where
 tape : w.tape = W.tape
 os : OsLater W.os w.os
 output : w.output = W.output
 size : W.heap.size ≤ w.heap.size
 old : ∀ b, b < W.heap.size → ¬ A b → w.heap[b]? = W.heap[b]?
 sub : ∀ b, b < W.heap.size → A b → A0 b
inductive LReach (P : Program) (Fin : Cfg → Prop) : Cfg → Cfg → Prop
 | refl {c : Cfg} : LReach P Fin c c
 | head {T : TapeF} {c c1 c2 : Cfg} : ¬ Fin c → LStep P T c c1 → LReach P Fin c1 c2 → LReach P Fin c c2
def Phase (L : Plan) (Fin : Cfg → Prop) (g : Nat) : Prop :=
 ∀ (S A : Nat → Prop) (args : Array Value) (fr : Frame) (cs : List Frame) (w' : World) (gs : Array Goroutine) (w : World) (sl : Option (Nat × Nat)) (t : Trace) (q : Nat → Nat),
  args.size = L.ary g → L.TmOk A g args → (L.zres g = true → ZOut L fr) → Chain L fr.fn cs → (∀ f ∈ fr :: cs, Susp L A f) → Rel A w' w → Tr L.P' Fin ⟨Frame.enter L.P' g args .normal, fr :: cs, w'⟩ →
  gs[0]? = some (mkG (Frame.enter L.P g args .normal) (fr :: cs)) → Leavers L.P t gs q → Past (ShB S) w.heap.size t → (∀ b, S b → (¬ A b ∧ Zone.blk ≠ some b) ∧ b < w.heap.size) →
  ∃ (c1 : Cfg) (N : Nat) (gs1 : Array Goroutine) (w1 : World) (sl1 : Option (Nat × Nat)) (t1 : Trace) (q1 : Nat → Nat) (S1 A1 : Nat → Prop),
   LReach L.P' Fin ⟨Frame.enter L.P' g args .normal, fr :: cs, w'⟩ c1 ∧ runNT L.P N (crowd gs w sl) t = (.next (crowd gs1 w1 sl1), t1) ∧ Com L S1 A1 c1 gs1 w1 t1 q1 ∧
   (∀ b, A1 b → A b ∨ w.heap.size ≤ b) ∧ (∀ b, A b → A1 b) ∧ w1.tape = w.tape ∧ OsLater w.os w1.os ∧ w1.output = w.output ∧ w.heap.size ≤ w1.heap.size ∧ ∀ b, b < w.heap.size → ¬ A b → w1.heap[b]? = w.heap[b]?
section
variable {L : Plan} {Fin : Cfg → Prop} {Post : Value → World → Prop} {W : World} {A0 : Nat → Prop}
omit [Zone] in
theorem Kept.next {A A1 : Nat → Prop} {w w1 : World} (k : Kept W A0 A w) (h1 : ∀ b, A1 b → A b ∨ w.heap.size ≤ b) (h2 : ∀ b, A b → A1 b) (ht : w1.tape = w.tape) (ho : OsLater w.os w1.os) (hu : w1.output = w.output) (hs : w.heap.size ≤ w1.heap.size) (h : ∀ b, b < w.heap.size → ¬ A b → w1.heap[b]? = w.heap[b]?) : Kept W A0 A1 w1 := by
 refine ⟨ht.trans k.tape, k.os.trans ho, hu.trans k.output, Nat.le_trans k.size hs, fun b hb hn => ?_, fun b hb ha => ?_⟩
 ·have := k.size
  rw [h b (by omega) (fun x => hn (h2 b x)), k.old b hb fun x => hn (h2 b x)]
 ·have := k.size
  rcases h1 b ha with h | h
  ·exact k.sub b hb h
  ·omega
omit [Zone] in
theorem Kept.at {A : Nat → Prop} {w : World} (k : Kept W A0 A w) (d : Nat) : Kept W A0 A (w.at d) := ⟨k.tape, k.os, k.output, k.size, k.old, k.sub⟩
theorem beside_lone (G : L.Good) (hph : ∀ g, L.turned g = true → Phase L Fin g)
  (hend : ∀ (S A : Nat → Prop) (c : Cfg) (gs : Array Goroutine) (w : World) (t : Trace) (q : Nat → Nat), Fin c → Com L S A c gs w t q → Kept W A0 A w → ∃ v, stepG L.P true (mkG c.fr c.cs) w = .ended (.done v) w #[] ∧ Post v w)
  {c : Cfg} (hT : Tr L.P' Fin c) : ∀ c2, LReach L.P' Fin c c2 → ∀ (S A : Nat → Prop) (gs : Array Goroutine) (w : World) (sl : Option (Nat × Nat)) (t : Trace) (q : Nat → Nat), Com L S A c2 gs w t q → Kept W A0 A w → Ends L.P Post (crowd gs w sl) t := by
 induction hT with
 | @fin c hf =>
  intro c2 hr S A gs w sl t q hc hk
  have e : c2 = c := by cases hr with | refl => rfl | head hn _ _ => exact absurd hf hn
  subst e
  obtain ⟨N, last, o, w', t', h1, h2, h3, h4⟩ := beside_ends (P := L.P) (Shun := ShB S) (B := w.heap.size) (D := fun _ _ _ => False) (Post := Post) (sl := sl) (n := 0) (fun _ _ _ h => h.elim) hc.g0 hc.leavers hc.past
   (show Goes L.P true AtRel _ _ 0 _ w from fun w1 ⟨d, hd⟩ => by
     subst hd
     obtain ⟨v, e1, e2⟩ := hend S A c2 gs (w.at d) t q hf ⟨hc.g0, hc.leavers, hc.past, hc.fr, hc.mode, hc.cs, hc.rel.tape _ _ _ _, hc.apart, hc.link⟩ (hk.at d)
     exact ⟨rfl, v, #[], e1, by simp, e2⟩)
  exact ⟨N, last, o, w', t', h1, h2, h3, h4⟩
 | @step c next hn hs hT ih =>
  intro c2 hr S A gs w sl t q hc hk
  cases hr with
  | @head T _ c1 _ _ h1 h2 => rw [h1.det (hs T)] at h2; exact ih T c2 h2 S A gs w sl t q hc hk
  | refl =>
   have hrun : (mkG c.fr c.cs).status = .running := rfl
   obtain ⟨N, gs1, d0, sl1, t1, q1, d, sl2, r1, r2, r3, r4, r5, r6⟩ := turn (P := L.P) hrun _ gs w sl t q (Nat.le_refl _) hc.g0 hc.leavers hc.past
   refine Ends.before r1 ?_
   let Td : TapeF := fun i q => w.tape (i - c.w.drawn + d) q
   obtain ⟨es', e', hm1⟩ := hs Td
   generalize hnx : next Td = c1 at e' hm1
   have hT1 : Tr L.P' Fin c1 := hnx ▸ hT Td
   have hst1 : LStep L.P' Td c c1 := ⟨es', e', hm1⟩
   have ih1 := ih Td
   rw [hnx] at ih1
   rcases hc.mode with hm | hm
   · -- it runs
    have hrel : Rel A (tape c.w Td) (w.at d) := hc.rel.tape _ _ _ _
    rcases step_run G hc.fr hm hrel (show stepG L.P' true (mkG c.fr (c.cs ++ [c0])) (tape c.w Td) = _ from e') with ⟨v, hp⟩ | ⟨out, hg, i1, i2, i3, i4, i5⟩
    ·obtain ⟨e1, _⟩ := mkG_inj (show mkG c1.fr (c1.cs ++ [c0]) = _ from hp)
     rw [e1] at hm1
     rcases hm1 with hm1 | hm1 <;> simp [Frame.raise, hm] at hm1
    ·obtain ⟨A', w1, es1, b1, b2, b3, b11, b4, b5, b12, b6, b7, b8, b9, b10⟩ := i5 fun j q _ => by
      show w.tape (d + j) q = w.tape (c.w.drawn + j - c.w.drawn + d) q
      rw [Nat.add_sub_cancel_left, Nat.add_comm]
     have hS : ∀ b, S b → (¬ A' b ∧ Zone.blk ≠ some b) ∧ b < w1.heap.size := fun b hb => by
      obtain ⟨⟨h1, h1'⟩, h2⟩ := hc.apart b hb
      refine ⟨⟨fun h => ?_, h1'⟩, Nat.lt_of_lt_of_le h2 b8⟩
      rcases b3 b h with h | h
      ·exact h1 h
      ·exact absurd h2 (by change w.heap.size ≤ b at h; omega)
     obtain ⟨gs2, t2, o1, o2, o3, o4, o5⟩ := own_step (P := L.P) (sl := sl2) r3 r4 r5 (b1 c.cs) b8 fun e he => (b10 e he).evL (S := S) fun b hb => (hS b hb).1
     have hk1 : Kept W A0 A' w1 := hk.next b3 b2 b6 (by rw [b12.1]; exact OsLater.refl _) b12.2 b8 b9
     have hrun1 : runNT L.P 1 (crowd gs1 (w.at d0) sl1) t1 = (.next (crowd gs2 w1 sl2), t1 ++ t2) := by simp only [runNT, r6, o1]
     refine Ends.before hrun1 ?_
     cases out with
     | stay fr1 =>
      obtain ⟨e1, e2⟩ := mkG_inj (show mkG c1.fr (c1.cs ++ [c0]) = mkG fr1 (c.cs ++ [c0]) from hg)
      have e3 := List.append_cancel_right e2
      refine ih1 c1 .refl S A' gs2 w1 sl2 _ q1 ⟨?_, o4, o5, by rw [e1]; exact b4.1, hm1, fun f hf => (hc.cs f (e3 ▸ hf)).mono b2, b5, hS, by rw [e1, e3, b4.2.2]; exact hc.link⟩ hk1
      rw [o3, e1, e3]
      rfl
     | enter g args =>
      obtain ⟨e1, e2⟩ := mkG_inj (show mkG c1.fr (c1.cs ++ [c0]) = mkG (Frame.enter L.P' g args .normal) (c.fr :: (c.cs ++ [c0])) from hg)
      have e3 : c1.cs = c.fr :: c.cs := List.append_cancel_right (bs := [c0]) (by rw [e2]; rfl)
      have hcs1 : ∀ f ∈ c.fr :: c.cs, Susp L A' f := fun f hf => by
       rcases List.mem_cons.1 hf with rfl | hf
       ·exact b4.2.2.2.1
       ·exact (hc.cs f hf).mono b2
      cases hpl : L.plain g with
      | true =>
       have hE : Frame.enter L.P g args .normal = Frame.enter L.P' g args .normal := by
        have := G.same g hpl
        unfold Frame.enter
        rw [show L.P'.funcs[g]? = L.P.funcs[g]? from this]
       refine ih1 c1 .refl S A' gs2 w1 sl2 _ q1 ⟨?_, o4, o5, by rw [e1]; exact (enter_ok G hpl (G.same g hpl) b4.2.1 b4.2.2.1).1, hm1, fun f hf => hcs1 f (e3 ▸ hf), b5, hS, by rw [e1, e3]; exact ⟨b4.2.2.2.2, hc.link⟩⟩ hk1
       rw [o3, e1, e3, ← hE]
       rfl
      | false =>
       have htn : L.turned g = true := by have := L.knows_known b4.1; simpa [Plan.known, hpl] using this
       have hary : args.size = L.ary g := by have := b4.1; simp only [Plan.knows, htn, Bool.and_eq_true, Bool.not_true, Bool.false_or, beq_iff_eq] at this; exact this.2
       have hcfg : c1 = ⟨Frame.enter L.P' g args .normal, c.fr :: c.cs, c1.w⟩ := by cases c1; simp_all
       rw [hcfg] at hT1 ih1
       obtain ⟨c2, N2, gs3, w3, sl3, t3, q3, S1, A1, p1, p2, p3, p4, p5, p6, p7, p8, p9, p10⟩ := hph g htn S A' args c.fr c.cs c1.w gs2 w1 sl2 _ q1 hary b4.2.1 b4.2.2.2.2 hc.link hcs1 b5 hT1 o3 o4 o5 hS
       exact Ends.before p2 (ih1 c2 p1 S1 A1 gs3 w3 sl3 t3 q3 p3 (hk1.next p4 p5 p6 p7 p8 p9 p10))
   · -- it leaves
    have hrel : Rel A (tape c.w Td) (w.at d) := hc.rel.tape _ _ _ _
    rcases ret_tri (L := L) (A := A) G hc.fr.plain hc.fr.defers hc.fr.kind hm hc.fr.tmps hrel with hend | ⟨v, w2', es2', hgo', i1, i2, i3, i4, i5⟩
    ·exfalso
     cases hcs : c.cs with
     | nil =>
      obtain ⟨o, w3, es3, h3⟩ := hend c0 []
      have : c.g = mkG c.fr (c0 :: []) := by unfold Cfg.g; rw [hcs]; rfl
      rw [this, h3] at e'
      cases e'
     | cons f rest =>
      obtain ⟨o, w3, es3, h3⟩ := hend f (rest ++ [c0])
      have : c.g = mkG c.fr (f :: (rest ++ [c0])) := by unfold Cfg.g; rw [hcs]; rfl
      rw [this, h3] at e'
      cases e'
    cases hcs : c.cs with
    | nil =>
     exfalso
     have e2 : stepG L.P' true (mkG c.fr (c0 :: [])) (tape c.w Td) = .go (mkG c1.fr (c1.cs ++ [c0])) c1.w es' := by
      have : c.g = mkG c.fr (c0 :: []) := by unfold Cfg.g; rw [hcs]; rfl
      rw [← this]; exact e'
     rw [hgo' c0 []] at e2
     injection e2 with e1 e2
     obtain ⟨_, e4⟩ := mkG_inj e1
     simp at e4
    | cons f rest =>
     have e2 : stepG L.P' true (mkG c.fr (f :: (rest ++ [c0]))) (tape c.w Td) = .go (mkG c1.fr (c1.cs ++ [c0])) c1.w es' := by
      have : c.g = mkG c.fr (f :: (rest ++ [c0])) := by unfold Cfg.g; rw [hcs]; rfl
      rw [← this]; exact e'
     rw [hgo' f (rest ++ [c0])] at e2
     injection e2 with e1 e2
     obtain ⟨e3, e4⟩ := mkG_inj e1
     have e5 := List.append_cancel_right e4
     rw [e2] at i1 i2 i3 i4 i5
     obtain ⟨A', w1, es1, b1, b2, b3, b11, b4, b5, b12, b6, b7, b8, b9, b10⟩ := i5 fun j q _ => by
      show w.tape (d + j) q = w.tape (c.w.drawn + j - c.w.drawn + d) q
      rw [Nat.add_sub_cancel_left, Nat.add_comm]
     have hS : ∀ b, S b → (¬ A' b ∧ Zone.blk ≠ some b) ∧ b < w1.heap.size := fun b hb => by
      obtain ⟨⟨h1, h1'⟩, h2⟩ := hc.apart b hb
      refine ⟨⟨fun h => ?_, h1'⟩, Nat.lt_of_lt_of_le h2 b8⟩
      rcases b3 b h with h | h
      ·exact h1 h
      ·exact absurd h2 (by change w.heap.size ≤ b at h; omega)
     have hs0 := (hc.cs f (by rw [hcs]; simp)).mono b2
     have hlk0 := hc.link
     rw [hcs] at hlk0
     obtain ⟨hlk, hlk2⟩ := hlk0
     obtain ⟨ops, i, rst, k, hto, hd⟩ := hs0.at_
     obtain ⟨f1, f2⟩ := finish_ok hs0.toFrOk hto (b4.imp id fun h => ⟨fun o d e1 e2 => hlk h.1 ops i rst k o d hto e1 e2, h.2⟩) fun o d g e1 e2 e3 => by rw [hd o d e1 e2] at e3; cases e3
     rw [hcs] at r3
     obtain ⟨gs2, t2, o1, o2, o3, o4, o5⟩ := own_step (P := L.P) (sl := sl2) r3 r4 r5 (b1 f rest) b8 fun e he => (b10 e he).evL (S := S) fun b hb => (hS b hb).1
     have hk1 : Kept W A0 A' w1 := hk.next b3 b2 b6 (by rw [b12.1]; exact OsLater.refl _) b12.2 b8 b9
     have hrun1 : runNT L.P 1 (crowd gs1 (w.at d0) sl1) t1 = (.next (crowd gs2 w1 sl2), t1 ++ t2) := by simp only [runNT, r6, o1]
     refine Ends.before hrun1 (ih1 c1 .refl S A' gs2 w1 sl2 _ q1 ⟨?_, o4, o5, by rw [← e3]; exact f1, hm1, fun x hx => (hc.cs x (by rw [hcs]; simp [e5, hx])).mono b2, b5, hS, by rw [← e3, ← e5, finish_fn]; exact hlk2⟩ hk1)
     rw [o3, ← e3, ← e5]
end
end Go.Proofs.Ytnikfjfcbpeieaa.Lk
end
