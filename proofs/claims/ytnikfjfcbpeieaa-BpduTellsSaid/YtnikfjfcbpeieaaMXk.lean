/- The starter of bpdu.sum: in company, and, behind Wait, alone again. Written by mkxj.py. -/
/- The starter of bpdu.sum, alone: from its entry to the first call of Add. Written by mkxk.py. -/
/- A walk of goroutine 0's own beside leavers that keeps whatever is said of the trace; and the beginning of a crew, whose two blocks nobody has touched yet. -/
/- bpdu.sum in company: from its call to its return. -/
import Derived.Test.YtnikfjfcbpeieaaMXi
import Derived.Test.YtnikfjfcbpeieaaMXn
section
namespace Go.Proofs.Ytnikfjfcbpeieaa.Lk
open Go Go.Conc Go.RowKit
open Go.ConcR (KK wgBlock WgAt stA smA rd wr mk)
open Go.ConcR.Gen
set_option linter.unusedVariables false
set_option linter.unusedSimpArgs false
noncomputable def L68 : Code := cLp (cB (cR (cL (cR (cR (cR c68))))))
noncomputable def rest68 : Code := cR (cR (cR (cR c68)))
theorem wr1 : IntKind.i64.wrap 1 = 1 := by decide
theorem wr2 : IntKind.i64.wrap 2 = 2 := by decide
theorem body73 : Try.f73.body = some c73 := rfl
theorem body77 : Try.f77.body = some c77 := rfl
theorem nm77 : (Try.f77.name == "runtime.NumGoroutine") = false := by kernel_rfl
theorem nm90 : (Try.f90.name == "runtime.NumGoroutine") = false := by kernel_rfl
section
variable (S : Nat → Prop) (W : World) (A : Option Addr) (n k cap : Nat) (T0 : Int) (fr : Frame) (cs : List Frame)
/-- What is known behind Wait. -/
structure FC (w : World) : Prop where
  fm : FM W A n k cap 1 (V2 A n k cap) w
  c : CntAt W.heap.size w T0
def DC (w w' : World) (es : Array Event) : Prop := w' = w ∧ ∀ e ∈ es, EvL (ShB fun b => S b ∨ b = W.heap.size + 1 ∨ b = W.heap.size) (W.heap.size + 5) e
def Back (g : Goroutine) (w : World) : Prop := g = mkG (fr.finish (.int .u8 (T0 % 256))) cs ∧ FC W A n k cap T0 w
/-- The stop behind Wait. -/
def LdS (g : Goroutine) (w : World) : Prop := g.status = .running ∧ FM W A n k cap 1 (V2 A n k cap) w ∧ Gs Try.prog true AtRel (DC S W) (Back W A n k cap T0 fr cs) (FC W A n k cap T0) g
end
section
variable {R : World → World → Prop} {D : World → World → Array Event → Prop} {Wg : Nat} {Stop : Goroutine → World → Prop} {F : World → Prop} {b₀ : Frame} {a₀ : Act} {ops₀ : Array Oper} {i₀ : Nat} {rest₀ : List Nat} {k₀ : List Item} {cs : List Frame} {o : Oper} {x : Operand} {ats : Array TypeId}
theorem add_call (V : MRule Wg R D F) (ho : ops₀[i₀]? = some o) (hw : Region.wanted o (yielded ops₀ a₀.tmps) = true) (hk : b₀.kind ≠ .early) (hop : o.op = .call { callee := .value (.func 73), args := #[x, .const (.int .i64 1)], argTypes := ats }) (hx : a₀.eval x = .pointer (some ⟨Wg, 0, none⟩))
    (hT : Gs Try.prog true R D Stop F (G (b₀.at (a₀.put ((ops₀[i₀]?).bind (·.dst)) (.tuple #[])) (.inRegion ops₀ rest₀ :: k₀)) cs)) : Gs Try.prog true R D (MKd R D Wg Stop) F (G (b₀.at a₀ (.inRegion ops₀ (i₀ :: rest₀) :: k₀)) cs) :=
  Gs.call V.toRule ho hw hk hop Try.func73 nm73 body73 (add_walk V hT _ (by have e : a₀.eval (.const (.int .i64 1)) = .int .i64 1 := rfl; simp [hx, e]))
theorem wait_call (V : MRule Wg R D F) (ho : ops₀[i₀]? = some o) (hw : Region.wanted o (yielded ops₀ a₀.tmps) = true) (hk : b₀.kind ≠ .early) (hop : o.op = .call { callee := .value (.func 77), args := #[x], argTypes := ats }) (hx : a₀.eval x = .pointer (some ⟨Wg, 0, none⟩))
    (hT : Gs Try.prog true R D Stop F (G (b₀.at (a₀.put ((ops₀[i₀]?).bind (·.dst)) (.tuple #[])) (.inRegion ops₀ rest₀ :: k₀)) cs)) : Gs Try.prog true R D (WKd R D Wg Stop) F (G (b₀.at a₀ (.inRegion ops₀ (i₀ :: rest₀) :: k₀)) cs) :=
  Gs.call V.toRule ho hw hk hop Try.func77 nm77 body77 (wait_walk V hT _ (by simp [hx]))
theorem run_mkf (P : Program) (fn : Fn) (first cap : Array Value) (w : World) : (Instr.makeFunc fn first cap).run P w = .ok (.func fn first cap) w := rfl
theorem events_mkf (P : Program) (fn : Fn) (first cap : Array Value) (w : World) (es : Array Event) : (Instr.makeFunc fn first cap).events P w es = es := rfl
theorem Gs.mkf {P : Program} {main : Bool} {b : Frame} {a : Act} {k : List Item} {ops : Array Oper} {i : Nat} {rest : List Nat} {fn : Fn} {fi ca : Array Operand} (U : Rule R D F) (ho : ops[i]? = some o) (hw : Region.wanted o (yielded ops a.tmps) = true) (hk : b.kind ≠ .early) (hop : o.op = .makeFunc fn fi ca)
    (h : Gs P main R D Stop F (G (b.at (a.put o.dst (.func fn (fi.map a.eval) (ca.map a.eval))) (.inRegion ops rest :: k)) cs)) : Gs P main R D Stop F (G (b.at a (.inRegion ops (i :: rest) :: k)) cs) :=
  Gs.val U ho hw hk (fun w _ => by simp [execOp, hop, run_mkf, Result.andThen]) (fun w _ => by simp [execOp, hop, events_mkf, run_mkf]) h
end
theorem FM.at {W : World} {A : Option Addr} {n k cap s : Nat} {o : Value} {w : World} (h : FM W A n k cap s o w) (d : Nat) : FM W A n k cap s o (w.at d) := h.rely (RM.at w d)
theorem step_leave68 {fr : Frame} {cs : List Frame} {T : Array Value} {todo : List Item} {w : World} (hk : fr.kind = .normal) : stepG Try.prog true (G { (base 68).at ⟨T, []⟩ todo with mode := .returning } (fr :: cs)) w = .go (mkG (fr.finish (T.getD 2 undef)) cs) w #[] := by
  simp [G, mkG, stepG, unwind, doReturn, results, Frame.at, base, Try.func68, Try.f68, seen, GStep.after, Act.eval]
set_option maxRecDepth 100000 in
set_option maxHeartbeats 40000000 in
theorem spawns_walk {S : Nat → Prop} {Low : Nat → Nat} {W : World} {A : Option Addr} {n k cap : Nat} {l : List Int} {T0 : Int} {fr : Frame} {cs : List Frame} (h : SPre S W A n cap l) (hS : ∀ b, S b → b < W.heap.size) (hL : ∀ i, Low i = W.heap.size + 4 + i)
   (hk : n / 2 = k) (hT : 0 ≤ T0 ∧ T0 < 4294967296) (hfk : fr.kind = .normal) (v0 v1 v2 v3 v4 v5 v6 v7 v8 v9 v10 v11 v12 v13 v14 v15 v16 v17 v18 v19 v20 v21 v22 v23 v24 v25 v26 v27 v28 : Value)
   (e3 : v3 = .pointer (some ⟨W.heap.size, 0, none⟩)) (e4 : v4 = .pointer (some ⟨W.heap.size + 1, 0, none⟩)) (e6 : v6 = .pointer (some ⟨W.heap.size + 3, 0, none⟩)) (e17 : v17 = .slice (some ⟨W.heap.size + 2, 0, none⟩) 2 2) (e18 : v18 = .int .i64 2) (e19 : v19 = .int .i64 0) :
   Gs Try.prog true (RM (W.heap.size + 1) W.heap.size) (DM S (W.heap.size + 1) W.heap.size Low 0) (MKd (RM (W.heap.size + 1) W.heap.size) (DM S (W.heap.size + 1) W.heap.size Low 0) (W.heap.size + 1) (MGo S (W.heap.size + 1) W.heap.size Low (halves k l) 0 (Spawns S (W.heap.size + 1) W.heap.size Low (halves k l) (LdS S W A n k cap T0 fr cs) 1)))
     (FM W A n k cap 0 undef) (G ((base 68).at ⟨#[v0, v1, v2, v3, v4, v5, v6, v7, v8, v9, v10, v11, v12, v13, v14, v15, v16, v17, v18, v19, v20, v21, v22, v23, v24, v25, v26, v27, v28], []⟩ [.code (cR (cB (cL (cR (cR L68))))), .inBlock 1, .code (cR (cR (cR L68))), .inLoop L68, .inBlock 0, .code rest68]) (fr :: cs)) := by
  subst e3 e4 e6 e17 e18 e19
  have hkn : k ≤ n := by omega
  have hsz : ∀ w, FM W A n k cap 0 undef w → w.heap.size = W.heap.size + 4 := fun w h => by have := h.size; omega
  have hcell : ∀ w, FM W A n k cap 0 undef w → w.cell? ⟨W.heap.size + 2, 1, none⟩ = some (V2 A n k cap) := fun w h => by simp [World.cell?, h.arr, oA]
  have U := (FM.rule (S := S) (Low := Low) (W := W) (A := A) (n := n) (k := k) (cap := cap) (s := 0) (o := undef) (j := 0)).toRule
  simp only [L68, rest68, c68, Try.f68, Option.getD_some, cR, cL, cB, cLp]
  repeat (first
    | refine Gs.seq U ?_
    | (refine Gs.region U ?_; simp only [List.size_toArray, List.length_cons, List.length_nil, Nat.reduceAdd, Nat.zero_add, List.range, List.range.loop]))
  refine add_call (F := FM W A n k cap 0 undef) FM.rule rfl rfl (by k_ne) rfl (by simp [Act.eval]) ?_
  walk_nrm
  repeat (first
    | refine Gs.regionEnd U ?_
    | (refine Gs.region U ?_; simp only [List.size_toArray, List.length_cons, List.length_nil, Nat.reduceAdd, Nat.zero_add, List.range, List.range.loop])
    | (refine Gs.mkf U rfl rfl (by k_ne) rfl ?_; walk_nrm))
  refine Gs.stop U fun w hw => ⟨rfl, _, _, (stepG_spawn (d := call88 (W.heap.size + 1) (W.heap.size + 3) W.heap.size) (w' := w) rfl rfl (by k_ne) (by simp [go_sem, call88]) rfl).trans (by rw [listed_nil (by simp [go_sem])]), rfl, ?_, Gs.runs (F := FM W A n k cap 0 undef) ?_ hw, by have := hw.size; rw [hL]; omega⟩
  · exact (adds_all (h.gw0 hS (by rw [hL]) hkn) (by rw [hL]; omega) (by rw [hL]; omega) (by omega)).adds (h.kw0 hw hkn)
  clear U
  have U := (FM.rule (S := S) (Low := Low) (W := W) (A := A) (n := n) (k := k) (cap := cap) (s := 0) (o := undef) (j := 1)).toRule
  walk_nrm
  repeat (first
    | refine Gs.seq U ?_
    | refine Gs.block U ?_
    | refine Gs.inLoop U ?_
    | refine Gs.inBlock U ?_
    | refine Gs.skip U ?_
    | refine Gs.regionEnd U ?_
    | (refine Gs.region U ?_; simp only [List.size_toArray, List.length_cons, List.length_nil, Nat.reduceAdd, Nat.zero_add, List.range, List.range.loop])
    | (refine Gs.cond true U rfl ?_; simp only [if_true, if_false, Bool.false_eq_true, ↓reduceIte])
    | (apply Gs.val U rfl rfl (by k_ne); (case hr => intro w hw; go_simp; (try w_num); (try rfl)); (case he => intro w hw; simp [go_sem]); walk_nrm; (try simp only [wr1, wr2]); (try w_num)))
  apply Gs.read U rfl rfl (by k_ne)
  case hr => intro w hw; have hex := hcell w hw; go_simp; (try rfl)
  case he =>
    intro w hw
    have hex := hcell w hw
    refine ⟨⟨rfl, rfl, rfl, Nat.le_refl _, fun _ _ => rfl⟩, fun e he => ?_⟩
    have hm := mem_listed he
    simp [go_sem, hex] at hm
    subst hm
    refine ⟨⟨fun y hy => ?_, by simp [MemAct.ofEvent], ?_⟩, by simp, by simp⟩
    · simp only [MemAct.ofEvent, MemAct.touch?, Option.some.injEq] at hy
      subst hy
      refine .inr ⟨?_, ?_, fun h => by cases h⟩
      · rintro ⟨b, e, h⟩
        cases e
        simp at h
      · rintro ⟨b, e, h⟩
        cases e
        exfalso
        have : W.heap.size + 2 < W.heap.size := hS _ h
        omega
    · show W.heap.size + 2 < w.heap.size
      have := hsz w hw
      omega
  walk_nrm
  -- alloc
  refine Gs.turn (F' := FM W A n k cap 1 (.slice none 0 0)) (v := .pointer (some ⟨W.heap.size + 4, 0, none⟩)) U (fun w => w.alloc (.cells #[.slice none 0 0] 35)) rfl rfl (by k_ne) (fun w hw => ?_) (fun w hw => ?_) (fun w hw => hw.alloc _) ?_
  · have e := hsz w hw
    clear hcell hsz hS hL h
    go_simp
    (try rw [e])
  · rw [listed_nil (by simp [go_sem])]
    exact ⟨kp_alloc w _ (by have := hsz w hw; show Low 0 ≤ _; rw [hL]; omega), by simp⟩
  clear U
  have U := (FM.rule (S := S) (Low := Low) (W := W) (A := A) (n := n) (k := k) (cap := cap) (s := 1) (o := .slice none 0 0) (j := 1)).toRule
  walk_nrm
  refine Gs.turn0 (F' := FM W A n k cap 1 (V2 A n k cap)) U (fun w => w.setCell ⟨W.heap.size + 4, 0, none⟩ (V2 A n k cap)) rfl rfl (by k_ne) (fun w hw => ?_) (fun w hw => ?_) (fun w hw => hw.store _) ?_
  · have h2 := hw.h2 rfl
    have hc : w.cell? ⟨W.heap.size + 4, 0, none⟩ = some (.slice none 0 0) := by simp [World.cell?, h2]
    have hz : w.frozen? ⟨W.heap.size + 4, 0, none⟩ = false := by simp [World.frozen?, h2]
    clear hcell hsz hS hL h
    simp only [V2]
    go_simp
  · refine ⟨?_, fun e he => ?_⟩
    · have ha := Go.Conc.aside_setCell w ⟨W.heap.size + 4, 0, none⟩ (V2 A n k cap)
      refine ⟨ha.tape, ha.os, ha.output, Nat.le_of_eq ha.size.symm, fun b hb => ha.block b (Nat.ne_of_lt ?_)⟩
      change b < Low 0 at hb
      rw [hL] at hb
      exact hb
    · have h2 := hw.h2 rfl
      have hc : w.cell? ⟨W.heap.size + 4, 0, none⟩ = some (.slice none 0 0) := by simp [World.cell?, h2]
      have hz : w.frozen? ⟨W.heap.size + 4, 0, none⟩ = false := by simp [World.frozen?, h2]
      have hm := mem_listed he
      simp [go_sem, V2] at hm
      rw [events_store Try.prog w _ _ _ .plain rfl] at hm
      simp [hc, hz] at hm
      subst hm
      refine ⟨⟨fun y hy => ?_, by simp [MemAct.ofEvent], ?_⟩, by simp, by simp⟩
      · simp only [MemAct.ofEvent, MemAct.touch?, Option.some.injEq] at hy
        subst hy
        refine .inr ⟨?_, ?_, fun _ i hi => ?_⟩
        · rintro ⟨b, e, h⟩
          cases e
          simp at h
        · rintro ⟨b, e, h⟩
          cases e
          exfalso
          have : W.heap.size + 4 < W.heap.size := hS _ h
          omega
        · rintro ⟨b, e, h1, _⟩
          cases e
          rw [hL] at h1
          change W.heap.size + 4 < _ at h1
          omega
      · have ha := Go.Conc.aside_setCell w ⟨W.heap.size + 4, 0, none⟩ (V2 A n k cap)
        have := hw.size
        show W.heap.size + 4 < (w.setCell _ _).heap.size
        rw [ha.size]
        omega
  clear U
  have U := (FM.rule (S := S) (Low := Low) (W := W) (A := A) (n := n) (k := k) (cap := cap) (s := 1) (o := V2 A n k cap) (j := 1)).toRule
  walk_nrm
  repeat (first
    | refine Gs.seq U ?_
    | refine Gs.regionEnd U ?_
    | (refine Gs.region U ?_; simp only [List.size_toArray, List.length_cons, List.length_nil, Nat.reduceAdd, Nat.zero_add, List.range, List.range.loop]))
  refine add_call (F := FM W A n k cap 1 (V2 A n k cap)) FM.rule rfl rfl (by k_ne) rfl (by simp [Act.eval]) ?_
  walk_nrm
  repeat (first
    | refine Gs.regionEnd U ?_
    | (refine Gs.region U ?_; simp only [List.size_toArray, List.length_cons, List.length_nil, Nat.reduceAdd, Nat.zero_add, List.range, List.range.loop])
    | (refine Gs.mkf U rfl rfl (by k_ne) rfl ?_; walk_nrm))
  refine Gs.stop U fun w hw => ⟨rfl, _, _, (stepG_spawn (d := call88 (W.heap.size + 1) (W.heap.size + 4) W.heap.size) (w' := w) rfl rfl (by k_ne) (by simp [go_sem, call88]) rfl).trans (by rw [listed_nil (by simp [go_sem])]), rfl, ?_, Gs.runs (F := FM W A n k cap 1 (V2 A n k cap)) ?_ hw, by have := hw.size; rw [hL]; omega⟩
  · exact (adds_all (h.gw1 hS (by rw [hL]) hkn) (by rw [hL]; omega) (by rw [hL]; omega) (by omega)).adds (h.kw1 hw hkn)
  clear U
  have U := (FM.rule (S := S) (Low := Low) (W := W) (A := A) (n := n) (k := k) (cap := cap) (s := 1) (o := V2 A n k cap) (j := 2)).toRule
  walk_nrm
  repeat (first
    | refine Gs.seq U ?_
    | refine Gs.inLoop U ?_
    | refine Gs.inBlock U ?_
    | refine Gs.regionEnd U ?_
    | (refine Gs.region U ?_; simp only [List.size_toArray, List.length_cons, List.length_nil, Nat.reduceAdd, Nat.zero_add, List.range, List.range.loop])
    | (refine Gs.cond false U rfl ?_; simp only [if_true, if_false, Bool.false_eq_true, ↓reduceIte])
    | refine Gs.exit U rfl ?_
    | (apply Gs.val U rfl rfl (by k_ne); (case hr => intro w hw; go_simp; (try w_num); (try rfl)); (case he => intro w hw; simp [go_sem]); walk_nrm; (try simp only [wr1, wr2]); (try w_num)))
  refine wait_call (F := FM W A n k cap 1 (V2 A n k cap)) FM.rule rfl rfl (by k_ne) rfl (by simp [Act.eval]) ?_
  walk_nrm
  repeat (first
    | refine Gs.seq U ?_
    | refine Gs.regionEnd U ?_
    | (refine Gs.region U ?_; simp only [List.size_toArray, List.length_cons, List.length_nil, Nat.reduceAdd, Nat.zero_add, List.range, List.range.loop]))
  refine Gs.call U rfl rfl (by k_ne) rfl Try.func90 nm90 rfl ?_
  walk_nrmf Try.f90
  repeat (first
    | refine Gs.seq U ?_
    | refine Gs.regionEnd U ?_
    | (refine Gs.region U ?_; simp only [List.size_toArray, List.length_cons, List.length_nil, Nat.reduceAdd, Nat.zero_add, List.range, List.range.loop])
    | (apply Gs.val U rfl rfl (by k_ne); (case hr => intro w hw; go_simp; (try w_num); (try rfl)); (case he => intro w hw; simp [go_sem]); walk_nrm; (try simp only [wr1, wr2]); (try w_num)))
  refine Gs.stop U fun w hw => ⟨rfl, hw, ?_⟩
  clear U
  have U : Rule AtRel (DC S W) (FC W A n k cap T0) := ⟨fun w w₁ hw ⟨d, e⟩ => by subst e; exact ⟨hw.fm.at d, hw.c⟩, fun w hw => ⟨rfl, by simp⟩⟩
  refine Gs.step (F' := FC W A n k cap T0) U rfl (fun w hw => ⟨w, _, stepG_load_atomic (v := T0) rfl rfl (by k_ne) rfl Try.func116 x116_n x116_b x116_x .u32 x116_f rfl hw.c.cell, ⟨rfl, ?_⟩, hw⟩) ?_
  · intro e he
    simp only [Array.mem_singleton] at he
    subst he
    refine ⟨fun x hx _ => ?_, by simp, by simp, by show W.heap.size < W.heap.size + 5; omega⟩
    simp only [MemAct.ofEvent, MemAct.touch?, Option.some.injEq] at hx
    subst hx
    simp
  walk_nrm
  repeat (first
    | refine Gs.regionEnd U ?_
    | (apply Gs.val U rfl rfl (by k_ne); (case hr => intro w hw; go_simp; (try w_num); (try rfl)); (case he => intro w hw; simp [go_sem]); walk_nrm; (try simp only [wr1, wr2]); (try w_num))
    | (refine Gs.leave1 U rfl rfl Try.func90 rfl ?_; walk_nrm)
    | refine Gs.ret U ?_)
  refine Gs.go (g' := mkG (fr.finish (.int .u8 (T0 % 256))) cs) U rfl (fun w hw => ?_) (Gs.stop U fun w hw => ⟨rfl, hw⟩)
  have e : IntKind.u8.wrap T0 = T0 % 256 := IntKind.wrap_u8 T0
  rw [e]
  exact step_leave68 hfk
end Go.Proofs.Ytnikfjfcbpeieaa.Lk
end
section
namespace Go.Proofs.Ytnikfjfcbpeieaa.Lk
open Go Go.Conc Go.RowKit
open Go.ConcR (KK wgBlock WgAt stA smA rd wr mk)
open Go.ConcR.Gen
set_option linter.unusedVariables false
set_option linter.unusedSimpArgs false

section
variable (S : Nat → Prop) (Low : Nat → Nat) (W : World) (A : Option Addr) (n k cap : Nat) (l : List Int) (T0 : Int) (fr : Frame) (cs : List Frame)
/-- It touches neither the group nor the counter. -/
def NW (x : MemAct) : Prop := (∀ y, x.touch? = some y → ¬ OfW (W.heap.size + 1) W.heap.size y.loc) ∧ x ≠ .mark (.release (stA (W.heap.size + 1)))
def DA (w w' : World) (es : Array Event) : Prop := ∀ e ∈ es, EvL (ShB S) (W.heap.size + 4) e ∧ NW W (.ofEvent e)
/-- The stop ahead of the first call of Add. -/
structure StopA (g : Goroutine) (w : World) : Prop where
  fm : FM W A n k cap 0 undef w
  wg : WgAt 108 (W.heap.size + 1) w 0 0
  cnt : CntAt W.heap.size w 0
  go : Gs Try.prog true (RM (W.heap.size + 1) W.heap.size) (DM S (W.heap.size + 1) W.heap.size Low 0) (MKd (RM (W.heap.size + 1) W.heap.size) (DM S (W.heap.size + 1) W.heap.size Low 0) (W.heap.size + 1) (MGo S (W.heap.size + 1) W.heap.size Low (halves k l) 0 (Spawns S (W.heap.size + 1) W.heap.size Low (halves k l) (LdS S W A n k cap T0 fr cs) 1))) (FM W A n k cap 0 undef) g
/-- The worlds on the way. -/
def A1 : World := W.alloc (.cells #[.int .u32 0] 117)
def A2 : World := (A1 W).alloc (wgBlock 108 0 0)
def A3 : World := (A2 W).alloc (oA A n k cap)
def A4 (v : Value) : World := (A3 W A n k cap).alloc (.cells #[v] 35)
end
def IsAt (X : World) (w : World) : Prop := ∃ d, w = X.at d
theorem isAt_rule {D : World → World → Array Event → Prop} (hD : ∀ w w', D w w' #[]) (X : World) : Rule AtRel D (IsAt X) := ⟨fun w w₁ ⟨d, h⟩ ⟨d', h'⟩ => ⟨d', by rw [h', h]; rfl⟩, fun w _ => hD w w⟩
section
variable {S : Nat → Prop} {Low : Nat → Nat} {W : World} {A : Option Addr} {n k cap : Nat} {l : List Int} {T0 : Int} {fr : Frame} {cs : List Frame}
theorem A1_size : (A1 W).heap.size = W.heap.size + 1 := alloc_size _ _
theorem A2_size : (A2 W).heap.size = W.heap.size + 2 := by unfold A2; rw [alloc_size, A1_size]
theorem A3_size : (A3 W A n k cap).heap.size = W.heap.size + 3 := by unfold A3; rw [alloc_size, A2_size]
theorem A4_size {v : Value} : (A4 W A n k cap v).heap.size = W.heap.size + 4 := by unfold A4; rw [alloc_size, A3_size]
theorem A4_old {v : Value} {b : Nat} (h : b < W.heap.size) : (A4 W A n k cap v).heap[b]? = W.heap[b]? := by
  unfold A4; rw [alloc_old _ _ (by rw [A3_size]; omega)]
  unfold A3; rw [alloc_old _ _ (by rw [A2_size]; omega)]
  unfold A2; rw [alloc_old _ _ (by rw [A1_size]; omega)]
  exact alloc_old _ _ h
theorem A4_nb {v : Value} : (A4 W A n k cap v).heap[W.heap.size]? = some (.cells #[.int .u32 0] 117) := by
  unfold A4; rw [alloc_old _ _ (by rw [A3_size]; omega)]
  unfold A3; rw [alloc_old _ _ (by rw [A2_size]; omega)]
  unfold A2; rw [alloc_old _ _ (by rw [A1_size]; omega)]
  exact alloc_new _ _ rfl
theorem A4_wg {v : Value} : (A4 W A n k cap v).heap[W.heap.size + 1]? = some (wgBlock 108 0 0) := by
  unfold A4; rw [alloc_old _ _ (by rw [A3_size]; omega)]
  unfold A3; rw [alloc_old _ _ (by rw [A2_size]; omega)]
  exact alloc_new _ _ A1_size
theorem A3_arr : (A3 W A n k cap).heap[W.heap.size + 2]? = some (oA A n k cap) := by
  unfold A3; exact alloc_new _ _ A2_size
theorem A4_arr {v : Value} : (A4 W A n k cap v).heap[W.heap.size + 2]? = some (oA A n k cap) := by
  unfold A4; rw [alloc_old _ _ (by rw [A3_size]; omega)]
  exact A3_arr
theorem A4_h1 {v : Value} : (A4 W A n k cap v).heap[W.heap.size + 3]? = some (.cells #[v] 35) := by
  unfold A4; exact alloc_new _ _ A3_size
theorem A4_set {v v' : Value} : (A4 W A n k cap v).setCell ⟨W.heap.size + 3, 0, none⟩ v' = A4 W A n k cap v' := by
  have e : (⟨W.heap.size + 3, 0, none⟩ : Addr) = ⟨(A3 W A n k cap).heap.size, 0, none⟩ := by rw [A3_size]
  rw [e]
  unfold A4
  generalize A3 W A n k cap = X
  unfold World.alloc World.setCell
  congr 1
  apply Array.ext
  · simp
  · intro i h1 h2
    simp only [Array.getElem_modify, Array.getElem_push]
    by_cases hi : i < X.heap.size
    · simp [hi, Nat.ne_of_gt hi]
    · have : i = X.heap.size := by simp at h2; omega
      subst this
      simp
theorem A4_fm (d : Nat) : FM W A n k cap 0 undef ((A4 W A n k cap (V1 A k cap)).at d) :=
  ⟨⟨rfl, rfl, rfl, by rw [show ((A4 W A n k cap (V1 A k cap)).at d).heap = (A4 W A n k cap (V1 A k cap)).heap from rfl, A4_size]; omega, fun b hb => A4_old hb⟩, A4_size, A4_arr, A4_h1, fun e => absurd e (by decide), ⟨0, 0, A4_wg⟩, ⟨0, A4_nb⟩⟩
noncomputable def tm3 (W : World) (A : Option Addr) (n k cap : Nat) : Array Value := #[.slice A n cap, undef, .int .u8 0, .pointer (some ⟨W.heap.size, 0, none⟩), .pointer (some ⟨W.heap.size + 1, 0, none⟩), undef, undef, .slice A n cap, .slice A n cap, .int .i64 n, .int .i64 (k : Nat), V1 A k cap, .slice A n cap, .slice A n cap, .int .i64 n, .int .i64 (k : Nat), V2 A n k cap, .slice (some ⟨W.heap.size + 2, 0, none⟩) 2 2, .int .i64 2, .int .i64 0, undef, undef, undef, undef, undef, undef, undef, undef, undef]
theorem gs_reg3 (hk : n / 2 = k) (hn : n ≤ cap) (hs : n ≤ 1000000000) {K : List Item} {Stop : Goroutine → World → Prop}
    (h : Gs Try.prog true AtRel (DA S W) Stop (IsAt (A3 W A n k cap)) (G ((base 68).at ⟨tm3 W A n k cap, []⟩ K) cs)) :
    Gs Try.prog true AtRel (DA S W) Stop (IsAt (A2 W)) (G ((base 68).at ⟨#[.slice A n cap, undef, .int .u8 0, .pointer (some ⟨W.heap.size, 0, none⟩), .pointer (some ⟨W.heap.size + 1, 0, none⟩), undef, undef, undef, undef, undef, undef, undef, undef, undef, undef, undef, undef, undef, undef, undef, undef, undef, undef, undef, undef, undef, undef, undef, undef], []⟩ (.code (.region 3 ops3 true) :: K)) cs) := by
  obtain ⟨m, h⟩ := h
  refine ⟨m + (ops3.size + 1 + 1), fun w ⟨d, e⟩ => ?_⟩
  subst e
  refine wpC_goes (Q := fun e a w' => e = .normal ∧ a = ⟨tm3 W A n k cap, []⟩ ∧ IsAt (A3 W A n k cap) w') (reg3 (nb := W.heap.size) (Wg := W.heap.size + 1) (fun w w' e he => by simp at he) hk hn hs _ ?_ ?_) rfl (by k_ne) ?_
  · rintro a x y ⟨_, h1, d', h2⟩ ⟨d2, h3⟩
    exact ⟨rfl, h1, d2, by rw [h3, h2]; rfl⟩
  · intro d'
    refine ⟨rfl, ?_, d', rfl⟩
    have e : ((A2 W).at d).heap.size = W.heap.size + 2 := A2_size
    rw [e]
    rfl
  · rintro e a w' ⟨rfl, rfl, hw⟩
    exact h w' hw
set_option maxRecDepth 100000 in
set_option maxHeartbeats 8000000 in
theorem start_walk (h : SPre S W A n cap l) (hS : ∀ b, S b → b < W.heap.size) (hL : ∀ i, Low i = W.heap.size + 4 + i) (hk : n / 2 = k) (hT : 0 ≤ T0 ∧ T0 < 4294967296) (hfk : fr.kind = .normal) :
    Gs Try.prog true AtRel (DA S W) (StopA S Low W A n k cap l T0 fr cs) (IsAt W) (G ((base 68).at ⟨#[.slice A n cap] ++ Array.replicate 28 undef, []⟩ [.code c68]) (fr :: cs)) := by
  have hD : ∀ w w', DA S W w w' #[] := fun w w' e he => by simp at he
  have U := isAt_rule hD W
  have hops : ops3 = ops3 := rfl
  simp only [L68, rest68, c68, Try.f68, Option.getD_some, cR, cL, cB, cLp]
  walk_nrm
  repeat (first
    | refine Gs.seq U ?_
    | refine Gs.regionEnd U ?_
    | (refine Gs.region U ?_; simp only [List.size_toArray, List.length_cons, List.length_nil, Nat.reduceAdd, Nat.zero_add, List.range, List.range.loop])
    | (apply Gs.val U rfl rfl (by k_ne); (case hr => intro w hw; go_simp; (try w_num); (try rfl)); (case he => intro w hw; simp [go_sem]); walk_nrm; (try w_num)))
  refine Gs.turn (F' := IsAt (A1 W)) (v := .pointer (some ⟨W.heap.size, 0, none⟩)) U (fun w => w.alloc (.cells #[.int .u32 0] 117)) rfl rfl (by k_ne) (fun w hw => ?_) (fun w hw => ?_) (fun w ⟨d, hw⟩ => ⟨d, by rw [hw]; rfl⟩) ?_
  · obtain ⟨d, rfl⟩ := hw
    go_simp
    (try rfl)
  · rw [listed_nil (by simp [go_sem])]; exact hD _ _
  try clear U
  have U := isAt_rule hD (A1 W)
  walk_nrm
  repeat (first
    | refine Gs.seq U ?_
    | refine Gs.regionEnd U ?_
    | (refine Gs.region U ?_; simp only [List.size_toArray, List.length_cons, List.length_nil, Nat.reduceAdd, Nat.zero_add, List.range, List.range.loop]))
  refine Gs.turn (F' := IsAt (A2 W)) (v := .pointer (some ⟨W.heap.size + 1, 0, none⟩)) U (fun w => w.alloc (wgBlock 108 0 0)) rfl rfl (by k_ne) (fun w hw => ?_) (fun w hw => ?_) (fun w ⟨d, hw⟩ => ⟨d, by rw [hw]; rfl⟩) ?_
  · obtain ⟨d, rfl⟩ := hw
    have e : ((A1 W).at d).heap.size = W.heap.size + 1 := A1_size
    generalize (A1 W).at d = w at e ⊢
    go_simp
    (try rw [e])
    (try rfl)
  · rw [listed_nil (by simp [go_sem])]; exact hD _ _
  try clear U
  have U := isAt_rule hD (A2 W)
  walk_nrm
  repeat (first
    | refine Gs.seq U ?_
    | refine Gs.regionEnd U ?_)
  refine gs_reg3 hk h.cap h.small ?_
  try clear U
  have U := isAt_rule hD (A3 W A n k cap)
  simp only [tm3]
  repeat (first
    | refine Gs.seq U ?_
    | refine Gs.block U ?_
    | refine Gs.loop U ?_
    | refine Gs.skip U ?_
    | refine Gs.regionEnd U ?_
    | (refine Gs.region U ?_; simp only [List.size_toArray, List.length_cons, List.length_nil, Nat.reduceAdd, Nat.zero_add, List.range, List.range.loop])
    | (refine Gs.cond true U rfl ?_; simp only [if_true, if_false, Bool.false_eq_true, ↓reduceIte])
    | (apply Gs.val U rfl rfl (by k_ne); (case hr => intro w hw; go_simp; (try w_num); (try rfl)); (case he => intro w hw; simp [go_sem]); walk_nrm; (try w_num)))
  apply Gs.read U rfl rfl (by k_ne)
  case hr => rintro w ⟨d, rfl⟩; have hex : ((A3 W A n k cap).at d).cell? ⟨W.heap.size + 2, 0, none⟩ = some (V1 A k cap) := by simp [World.cell?, World.at, A3_arr, oA]
             generalize (A3 W A n k cap).at d = w at hex ⊢; go_simp; (try rfl)
  case he =>
    rintro w ⟨d, rfl⟩ e he
    have hex : ((A3 W A n k cap).at d).cell? ⟨W.heap.size + 2, 0, none⟩ = some (V1 A k cap) := by simp [World.cell?, World.at, A3_arr, oA]
    generalize (A3 W A n k cap).at d = w at hex he
    have hm := mem_listed he
    simp [go_sem, hex] at hm
    subst hm
    refine ⟨⟨fun x hx hs => ?_, by simp, by simp, by show W.heap.size + 2 < W.heap.size + 4; omega⟩, fun x hx ho => ?_, by simp [MemAct.ofEvent]⟩
    · simp only [MemAct.ofEvent, MemAct.touch?, Option.some.injEq] at hx
      subst hx
      obtain ⟨b, e, hb⟩ := hs
      cases e
      exfalso
      have : W.heap.size + 2 < W.heap.size := hS _ hb
      omega
    · simp only [MemAct.ofEvent, MemAct.touch?, Option.some.injEq] at hx
      subst hx
      obtain ⟨b, e, hb⟩ := ho
      cases e
      simp at hb
  walk_nrm
  refine Gs.turn (F' := IsAt (A4 W A n k cap (.slice none 0 0))) (v := .pointer (some ⟨W.heap.size + 3, 0, none⟩)) U (fun w => w.alloc (.cells #[.slice none 0 0] 35)) rfl rfl (by k_ne) (fun w hw => ?_) (fun w hw => ?_) (fun w ⟨d, hw⟩ => ⟨d, by rw [hw]; rfl⟩) ?_
  · obtain ⟨d, rfl⟩ := hw
    have e : ((A3 W A n k cap).at d).heap.size = W.heap.size + 3 := A3_size
    generalize (A3 W A n k cap).at d = w at e ⊢
    go_simp
    (try rw [e])
    (try rfl)
  · rw [listed_nil (by simp [go_sem])]; exact hD _ _
  try clear U
  have U := isAt_rule hD (A4 W A n k cap (.slice none 0 0))
  walk_nrm
  have hfr : ∀ d, ((A4 W A n k cap (.slice none 0 0)).at d).cell? ⟨W.heap.size + 3, 0, none⟩ = some (.slice none 0 0) ∧ ((A4 W A n k cap (.slice none 0 0)).at d).frozen? ⟨W.heap.size + 3, 0, none⟩ = false := fun d => by simp [World.cell?, World.frozen?, World.at, A4_h1]
  refine Gs.turn0 (F' := IsAt (A4 W A n k cap (V1 A k cap))) U (fun w => w.setCell ⟨W.heap.size + 3, 0, none⟩ (V1 A k cap)) rfl rfl (by k_ne) (fun w hw => ?_) (fun w hw => ?_) (fun w ⟨d, hw⟩ => ⟨d, by rw [hw]; exact (show ((A4 W A n k cap (.slice none 0 0)).at d).setCell ⟨W.heap.size + 3, 0, none⟩ (V1 A k cap) = ((A4 W A n k cap (.slice none 0 0)).setCell ⟨W.heap.size + 3, 0, none⟩ (V1 A k cap)).at d from rfl).trans (congrArg (fun x : World => x.at d) A4_set)⟩) ?_
  · obtain ⟨d, rfl⟩ := hw
    obtain ⟨hc, hz⟩ := hfr d
    generalize (A4 W A n k cap (.slice none 0 0)).at d = w at hc hz ⊢
    simp only [V1]
    go_simp
  · obtain ⟨d, rfl⟩ := hw
    obtain ⟨hc, hz⟩ := hfr d
    generalize (A4 W A n k cap (.slice none 0 0)).at d = w at hc hz ⊢
    intro e he
    have hm := mem_listed he
    simp [go_sem, V1] at hm
    rw [events_store Try.prog w _ _ _ .plain rfl] at hm
    simp [hc, hz] at hm
    subst hm
    refine ⟨⟨fun x hx hs => ?_, by simp, by simp, by show W.heap.size + 3 < W.heap.size + 4; omega⟩, fun x hx ho => ?_, by simp [MemAct.ofEvent]⟩
    · simp only [MemAct.ofEvent, MemAct.touch?, Option.some.injEq] at hx
      subst hx
      obtain ⟨b, e, hb⟩ := hs
      cases e
      exfalso
      have : W.heap.size + 3 < W.heap.size := hS _ hb
      omega
    · simp only [MemAct.ofEvent, MemAct.touch?, Option.some.injEq] at hx
      subst hx
      obtain ⟨b, e, hb⟩ := ho
      cases e
      simp at hb
  try clear U
  have U := isAt_rule hD (A4 W A n k cap (V1 A k cap))
  walk_nrm
  refine Gs.regionEnd U ?_
  refine Gs.stop U ?_
  have hsw := spawns_walk (S := S) (Low := Low) (W := W) (A := A) (n := n) (k := k) (cap := cap) (l := l) (T0 := T0) (fr := fr) (cs := cs) h hS hL hk hT hfk
  simp only [L68, rest68, c68, Try.f68, Option.getD_some, cR, cL, cB, cLp] at hsw
  rintro w ⟨d, rfl⟩
  exact ⟨A4_fm d, A4_wg, A4_nb, hsw _ _ _ _ _ _ _ _ _ _ _ _ _ _ _ _ _ _ _ _ _ _ _ _ _ _ _ _ _ rfl rfl rfl rfl rfl rfl⟩
end
end Go.Proofs.Ytnikfjfcbpeieaa.Lk
end
section
namespace Go.Proofs.Ytnikfjfcbpeieaa.Lk
open Go Go.Conc
open Go.ConcN (sumTo upd sumTo_upd upd_ne upd_same)
open Go.ConcR (KK wgBlock WgAt stA smA rd wr mk)
set_option linter.unusedVariables false
set_option linter.unusedSimpArgs false

section
variable {P : Program} {I : Trace → Prop}

/-- Goroutine 0 comes to its turn; whatever leavers cannot unsay of the trace stays said. -/
theorem turnI (hI : ∀ (t : Trace) (g : Nat) (fn : FuncId) (pos : String) (es : Array Event), g ≠ 0 → (∀ e ∈ es, e.mute = true) → I t → I (t ++ MemOp.ofEvents g fn pos es)) {a : Goroutine} (hrun : a.status = .running) : ∀ (M : Nat) (gs : Array Goroutine) (w : World) (sl : Option (Nat × Nat)) (t : Trace) (q : Nat → Nat), sumTo gs.size q ≤ M → gs[0]? = some a → Leavers P t gs q → I t →
    ∃ (N : Nat) (gs' : Array Goroutine) (d0 : Nat) (sl' : Option (Nat × Nat)) (t' : Trace) (q' : Nat → Nat) (d : Nat) (sl2 : Option (Nat × Nat)),
      runNT P N (crowd gs w sl) t = (.next (crowd gs' (w.at d0) sl'), t') ∧ gs'.size = gs.size ∧ gs'[0]? = some a ∧ Leavers P t' gs' q' ∧ I t' ∧ stepT P (crowd gs' (w.at d0) sl') = runT P (crowd gs' (w.at d) sl2) 0 := by
  intro M
  induction M with
  | zero =>
    intro gs w sl t q hM h0 hL hP
    have haw : ∀ g ∈ gs, awake g := by
      intro g hg
      obtain ⟨i, hi, rfl⟩ := Array.mem_iff_getElem.1 hg
      rcases Nat.eq_zero_or_pos i with rfl | hpos
      · have : gs[0] = a := by simpa [Array.getElem?_eq_getElem hi] using h0
        rw [this]; exact awake_of (.inl hrun)
      · exact awake_of ((hL.old i _ hpos (Array.getElem?_eq_getElem hi)).status.elim .inl fun x => .inr (.inr x))
    obtain ⟨i, g, d, sl', hi, hg, hst⟩ := crowd_pick (P := P) (w := w) (sl := sl) haw ⟨0, a, h0, hrun⟩
    rcases Nat.eq_zero_or_pos i with rfl | hpos
    · exact ⟨0, gs, w.drawn, sl, t, q, d, sl', rfl, rfl, h0, hL, hP, hst⟩
    · have hq := hL.old i g hpos hi
      have hlt : i < gs.size := (Array.getElem?_eq_some_iff.1 hi).1
      have : q i = 0 := by
        have h5 : sumTo gs.size (upd q i 0) + q i = sumTo gs.size q + 0 := by
          have := sumTo_upd q 0 id hlt
          simpa using this
        omega
      rw [this] at hq
      rw [hq.1] at hg; cases hg
  | succ M ih =>
    intro gs w sl t q hM h0 hL hP
    have haw : ∀ g ∈ gs, awake g := by
      intro g hg
      obtain ⟨i, hi, rfl⟩ := Array.mem_iff_getElem.1 hg
      rcases Nat.eq_zero_or_pos i with rfl | hpos
      · have : gs[0] = a := by simpa [Array.getElem?_eq_getElem hi] using h0
        rw [this]; exact awake_of (.inl hrun)
      · exact awake_of ((hL.old i _ hpos (Array.getElem?_eq_getElem hi)).status.elim .inl fun x => .inr (.inr x))
    obtain ⟨i, g, d, sl', hi, hg, hst⟩ := crowd_pick (P := P) (w := w) (sl := sl) haw ⟨0, a, h0, hrun⟩
    rcases Nat.eq_zero_or_pos i with rfl | hpos
    · exact ⟨0, gs, w.drawn, sl, t, q, d, sl', rfl, rfl, h0, hL, hP, hst⟩
    · -- a leaver slips
      have hq := hL.old i g hpos hi
      have hi0 : (i == 0) = false := by simp; omega
      have hlt : i < gs.size := (Array.getElem?_eq_some_iff.1 hi).1
      cases hqi : q i with
      | zero => rw [hqi] at hq; rw [hq.1] at hg; cases hg
      | succ k =>
        rw [hqi] at hq
        rcases hq with ⟨hf, _⟩ | ⟨_, g', es, hm, hstp, hq'⟩
        · rw [hf] at hg; cases hg
        have hrunT := runT_crowd_go (P := P) (sl := sl') (i := i) hi (by rw [hi0]; exact hstp (w.at d))
        have hsz : ((gs.map (woken P g g' (w.at d))).setIfInBounds i g').size = gs.size := by simp
        have hsum : sumTo gs.size (upd q i k) + (k + 1) = sumTo gs.size q + k := by
          have := sumTo_upd q k id hlt
          simpa [hqi] using this
        obtain ⟨N, gs', d0, sl'', t', q', d2, sl2, hr, hs', h0', hL', hP', hS⟩ := ih ((gs.map (woken P g g' (w.at d))).setIfInBounds i g') (w.at d) sl' (t ++ MemOp.ofEvents i g.frame.fn g.frame.place es) (upd q i k) (by rw [hsz]; omega)
          (by
            have hne : i ≠ 0 := by omega
            rw [Array.getElem?_setIfInBounds_ne hne, Array.getElem?_map, h0]
            simp [woken_run hrun])
          ⟨fun j x hj hx => by
            by_cases hji : i = j
            · subst hji
              rw [Array.getElem?_setIfInBounds_self_of_lt (by simpa using hlt)] at hx
              obtain rfl := Option.some.inj hx
              rw [upd_same, Deaf_own]
              exact hq'
            · rw [Array.getElem?_setIfInBounds_ne hji, Array.getElem?_map] at hx
              obtain ⟨y, hy, rfl⟩ := Option.map_eq_some_iff.1 hx
              have hqj := hL.old j y hj hy
              rw [woken_quitsD hqj, upd_ne q k (Ne.symm hji), Deaf_other t hji _ (fun op hop => by obtain ⟨e, _, rfl⟩ := Go.Conc.mem_ofEvents hop; rfl)]
              exact hqj, fun j hj => by
            rw [Deaf_other t (g' := i) (by simp at hj; omega) _ (fun op hop => by obtain ⟨e, _, rfl⟩ := Go.Conc.mem_ofEvents hop; rfl)]
            exact hL.above j (by simpa using hj)⟩
          (hI _ _ _ _ _ (by omega) hm hP)
        exact ⟨N + 1, gs', d0, sl'', t', q', d2, sl2, by simp only [runNT, hst, hrunT]; exact hr, hs'.trans hsz, h0', hL', hP', hS⟩


theorem walkI {D : World → World → Array Event → Prop} {Stop : Goroutine → World → Prop} (hI : ∀ (t : Trace) (g : Nat) (fn : FuncId) (pos : String) (es : Array Event), g ≠ 0 → (∀ e ∈ es, e.mute = true) → I t → I (t ++ MemOp.ofEvents g fn pos es))
    (hD : ∀ (t : Trace) (fn : FuncId) (pos : String) (w w' : World) (es : Array Event), D w w' es → I t → I (t ++ MemOp.ofEvents 0 fn pos es)) :
    ∀ (n : Nat) (gs : Array Goroutine) (a : Goroutine) (w : World) (sl : Option (Nat × Nat)) (t : Trace) (q : Nat → Nat), gs[0]? = some a → Leavers P t gs q → I t → Goes P true AtRel D Stop n a w →
      ∃ (N : Nat) (gs' : Array Goroutine) (a' : Goroutine) (w' : World) (sl' : Option (Nat × Nat)) (t' : Trace) (q' : Nat → Nat),
        runNT P N (crowd gs w sl) t = (.next (crowd gs' w' sl'), t') ∧ gs'.size = gs.size ∧ gs'[0]? = some a' ∧ Stop a' w' ∧ Leavers P t' gs' q' ∧ I t' := by
  intro n
  induction n with
  | zero => exact fun gs a w sl t q h0 hL hP hG => ⟨0, gs, a, w, sl, t, q, rfl, rfl, h0, hG w (atRel_refl w), hL, hP⟩
  | succ n ih =>
    intro gs a w sl t q h0 hL hP hG
    rcases hG with hstop | ⟨hrun, hstep⟩
    · exact ⟨0, gs, a, w, sl, t, q, rfl, rfl, h0, hstop w (atRel_refl w), hL, hP⟩
    obtain ⟨N, gs1, d0, sl1, t1, q1, d, sl2, r1, r2, r3, r4, r5, r6⟩ := turnI (P := P) hI hrun _ gs w sl t q (Nat.le_refl _) h0 hL hP
    have hs := hstep (w.at d) ⟨d, rfl⟩
    cases hgo : stepG P true a (w.at d) with
    | go a' w' es =>
      rw [hgo, goes_go] at hs
      obtain ⟨hd, hG'⟩ := hs
      have hrunT := runT_crowd_go (P := P) (sl := sl2) (i := 0) r3 (show stepG P (0 == 0) a (w.at d) = _ from hgo)
      have hlt : 0 < gs1.size := (Array.getElem?_eq_some_iff.1 r3).1
      obtain ⟨N2, gs', a'', w'', sl'', t', q', k1, k2, k3, k4, k5, k6⟩ := ih ((gs1.map (woken P a a' w')).setIfInBounds 0 a') a' w' sl2 (t1 ++ MemOp.ofEvents 0 a.frame.fn a.frame.place es) q1 (by simp [hlt])
        ⟨fun j x hj hx => by
          have hne : 0 ≠ j := by omega
          rw [Array.getElem?_setIfInBounds_ne hne, Array.getElem?_map] at hx
          obtain ⟨y, hy, rfl⟩ := Option.map_eq_some_iff.1 hx
          have hq := r4.old j y hj hy
          rw [woken_quitsD hq, Deaf_other t1 (by omega) _ (fun op hop => by obtain ⟨e, _, rfl⟩ := Go.Conc.mem_ofEvents hop; rfl)]
          exact hq, fun j hj => by
          rw [Deaf_other t1 (g' := 0) (by simp at hj; omega) _ (fun op hop => by obtain ⟨e, _, rfl⟩ := Go.Conc.mem_ofEvents hop; rfl)]
          exact r4.above j (by simpa using hj)⟩
        (hD _ _ _ _ _ _ hd r5) hG'
      have h1 : runNT P 1 (crowd gs1 (w.at d0) sl1) t1 = (.next (crowd ((gs1.map (woken P a a' w')).setIfInBounds 0 a') w' sl2), t1 ++ MemOp.ofEvents 0 a.frame.fn a.frame.place es) := by simp only [runNT, r6, hrunT]
      refine ⟨N + (1 + N2), gs', a'', w'', sl'', t', q', ?_, k2.trans (by simp [r2]), k3, k4, k5, k6⟩
      rw [runNT_add, r1]
      show runNT P (1 + N2) (crowd gs1 (w.at d0) sl1) t1 = _
      rw [runNT_add, h1]
      exact k1
    | _ => rw [hgo] at hs; exact hs.elim
end

/-- THE BEGINNING, where goroutine 0 has come some way since it allotted the two blocks. -/
theorem Mid.begin2 {S : Nat → Prop} {W : World} {K : Nat} {Low : Nat → Nat} {B : Nat} {t : Trace} (h : Past (ShB S) B t) (hn : ∀ op ∈ t, NW W op.act) : Mid S (W.heap.size + 1) W.heap.size K Low B 0 t := by
  refine ⟨h.clean, fun i a ha ho => ?_, fun i a ha hm => (h.known i a ha hm).imp id .inl, fun i hi => absurd hi (Nat.not_lt_zero i), fun i g hg hne hc => .inl (h.over i g hg hne hc), fun i hi => ?_, h.seen⟩
  · obtain ⟨x, hx, hxa⟩ := touch_of ha
    exact absurd ho ((hn x (Array.mem_of_getElem? hx)).1 a hxa)
  · obtain ⟨op, ho, hoa⟩ := Option.map_eq_some_iff.1 hi
    exact (hn op (Array.mem_of_getElem? ho)).2 hoa

theorem nw_low {W : World} {x : MemAct} (h : x.low W.heap.size) : NW W x := by
  refine ⟨fun y hy ⟨ad, e, hb⟩ => ?_, fun e => ?_⟩
  · have : ad.block < W.heap.size := by
      cases x with
      | access ev =>
        obtain ⟨loc, wr, sy⟩ := ev
        cases loc <;> simp [MemAct.touch?] at hy <;> (try (subst hy; simp at e)) <;> (try (subst e; exact h))
      | mark m =>
        cases m <;> simp [MemAct.touch?] at hy <;> (subst hy; simp at e; subst e; exact h)
      | _ => simp [MemAct.touch?] at hy
    omega
  · rw [e] at h
    change W.heap.size + 1 < W.heap.size at h
    omega
theorem nw_mute {W : World} {e : Event} (h : e.mute = true) : NW W (.ofEvent e) := by
  refine ⟨fun y hy => (by rw [touch_mute h] at hy; cases hy), fun he => ?_⟩
  obtain ⟨loc, wr, sy⟩ := e
  cases loc <;> simp_all [Event.mute, MemAct.ofEvent]
/-- Ahead of the crew. -/
structure Fore (S : Nat → Prop) (W : World) (t : Trace) : Prop where
  past : Past (ShB S) (W.heap.size + 4) t
  nw : ∀ op ∈ t, NW W op.act
theorem Fore.mute {S : Nat → Prop} {W : World} (t : Trace) (g : Nat) (fn : FuncId) (pos : String) (es : Array Event) (hg : g ≠ 0) (hm : ∀ e ∈ es, e.mute = true) (h : Fore S W t) : Fore S W (t ++ MemOp.ofEvents g fn pos es) :=
  ⟨h.past.mute hg hm, fun op hop => (Array.mem_append.1 hop).elim (h.nw op) fun hu => by obtain ⟨e, he, rfl⟩ := Go.Conc.mem_ofEvents hu; exact nw_mute (hm e he)⟩
theorem Fore.own {S : Nat → Prop} {W : World} (t : Trace) (fn : FuncId) (pos : String) (w w' : World) (es : Array Event) (hd : DA S W w w' es) (h : Fore S W t) : Fore S W (t ++ MemOp.ofEvents 0 fn pos es) :=
  ⟨h.past.own fun e he => (hd e he).1, fun op hop => (Array.mem_append.1 hop).elim (h.nw op) fun hu => by obtain ⟨e, he, rfl⟩ := Go.Conc.mem_ofEvents hu; exact (hd e he).2⟩
end Go.Proofs.Ytnikfjfcbpeieaa.Lk
end
section
namespace Go.Proofs.Ytnikfjfcbpeieaa.Lk
open Go Go.Conc
open Go.ConcN (sumTo upd sumTo_upd upd_ne upd_same)
open Go.ConcR (KK wgBlock WgAt stA smA rd wr mk)
set_option linter.unusedVariables false
set_option linter.unusedSimpArgs false

theorem emod_mod_eq (a : Int) : a % 4294967296 % 256 = a % 256 := by omega

theorem body68 : Try.f68.body = some c68 := rfl
theorem sum_company {S : Nat → Prop} {A : Option Addr} {n cap : Nat} {l : List Int} {fr : Frame} {cs : List Frame} {gs : Array Goroutine} {w : World} {sl : Option (Nat × Nat)} {t : Trace} {q : Nat → Nat}
    (h : SPre S w A n cap l) (hS : ∀ b, S b → b < w.heap.size) (hfk : fr.kind = .normal)
    (h0 : gs[0]? = some (mkG (Frame.enter Try.prog 68 #[.slice A n cap] .normal) (fr :: cs))) (hL : Leavers Try.prog t gs q) (hP : Past (ShB S) w.heap.size t) :
    ∃ (N : Nat) (gs1 : Array Goroutine) (w1 : World) (sl1 : Option (Nat × Nat)) (t1 : Trace) (q1 : Nat → Nat),
      runNT Try.prog N (crowd gs w sl) t = (.next (crowd gs1 w1 sl1), t1) ∧ gs1[0]? = some (mkG (fr.finish (.int .u8 (l.sum % 256))) cs) ∧ Leavers Try.prog t1 gs1 q1 ∧
      Past (ShB fun b => S b ∨ b = w.heap.size + 1 ∨ b = w.heap.size) w1.heap.size t1 ∧ w1.heap.size = w.heap.size + 5 ∧ Kp w.heap.size w w1 := by
  -- alone, to the first call of Add
  have hT0 : 0 ≤ l.sum % 4294967296 ∧ l.sum % 4294967296 < 4294967296 := by omega
  let Low : Nat → Nat := fun i => w.heap.size + 4 + i
  have hLow : ∀ i, Low i = w.heap.size + 4 + i := fun i => rfl
  obtain ⟨n1, hgo⟩ := start_walk (S := S) (Low := Low) (cs := cs) h hS hLow rfl hT0 hfk
  have hen : mkG (Frame.enter Try.prog 68 #[.slice A n cap] .normal) (fr :: cs) = G ((base 68).at ⟨#[.slice A n cap] ++ Array.replicate 28 undef, []⟩ [.code c68]) (fr :: cs) := by
    simp [mkG, G, Frame.enter, Frame.at, base, Try.func68, body68, Try.ntmps68]
  rw [hen] at h0
  obtain ⟨N1, gs1, a1, w1, sl1, t1, q1, r1, r2, r3, r4, r5, r6⟩ := walkI (I := Fore S w) Fore.mute Fore.own n1 gs _ w sl t q h0 hL ⟨hP.mono (by omega), fun op hop => nw_low (hP.seen op hop)⟩ (hgo w ⟨w.drawn, rfl⟩)
  obtain ⟨f1, f2, f3, f4⟩ := r4
  obtain ⟨m2, hm2⟩ := f4
  have hK : 0 < gs1.size := (Array.getElem?_eq_some_iff.1 r3).1
  have hsz1 : w1.heap.size = w.heap.size + 4 := f1.size
  have G0 : Geo S (w.heap.size + 1) w.heap.size gs1.size Low w.heap.size := ⟨fun a b hab => by simp only [hLow]; omega, by simp only [hLow]; omega, by simp only [hLow]; omega, by omega, by omega, Nat.le_refl _, hK, hS⟩
  let D : Nat → WD := fun i => ⟨halves (n / 2) l i, 7, 0, 0⟩
  have hinv : Inv S (w.heap.size + 1) w.heap.size gs1.size Low (halves (n / 2) l) (LdS S w A n (n / 2) cap (l.sum % 4294967296) fr cs) (l.sum % 4294967296) w.heap.size w (phi (.sp 1 5) + sumTo 2 (fun i => len (D i)), m2 + 2 * (sumTo 0 (fun i => (D i).fuel) + sumTo gs1.size q1)) (crowd gs1 w1 sl1) t1 := by
    refine ⟨gs1, w1, sl1, 0, D, .sp 1 5, m2, 0, a1, 0, 0, q1, rfl, r3, .skd (r := 1) (by omega) (hm2 w1 f1), ⟨rfl, fun p g hp hlt hg => r5.old p g hp hg, fun i hi => absurd hi (Nat.not_lt_zero i), ?_, r6.past.hears, fun i hi => absurd hi (Nat.not_lt_zero i), fun i hi => absurd hi (Nat.not_lt_zero i), fun p hp => r5.above p (by simpa using hp), fun i _ => ⟨rfl, rfl⟩, fun i hi => absurd hi (Nat.not_lt_zero i)⟩, f2, ?_, ⟨0, f3, by omega, by omega, ?_⟩, fun e => (by cases e), f1.kp, rfl⟩
    · rw [hsz1]; exact Mid.begin2 r6.past r6.nw
    · have x : Mode 0 D (.sp 1 5) (((Vc 0 D + pend (.sp 1 5) : Nat) : Int) * KK) 0 := .opn (tag := .sp 1 5) trivial (fun i hi => absurd hi (Nat.not_lt_zero i)) (fun n e => (by cases e)) (fun n vs e => (by cases e))
      have e : ((Vc 0 D + pend (.sp 1 5) : Nat) : Int) * KK = 0 := by
        rw [show Vc 0 D + pend (.sp 1 5) = 0 from rfl]
        exact Int.zero_mul _
      rw [e] at x
      exact x
    · show (0 + ((halves (n / 2) l 0).sum + (halves (n / 2) l 1).sum)) % 4294967296 = _
      rw [halves_sum, Int.zero_add]
  obtain ⟨N2, m', t2, k1, gs2, w2, sl2, a2, q2, rfl, k2, k3, k4, k5, k6, k7⟩ := crew_runs G0 (fun g w hg => hg.1) (fun g w d hg => ⟨hg.1, hg.2.1.at d, hg.2.2⟩) _ _ _ hinv
  -- alone again
  obtain ⟨_, g1, n3, g2⟩ := k3
  have hsz2 : w2.heap.size = w.heap.size + 5 := g1.size
  obtain ⟨N3, gs3, a3, w3, sl3, t3, q3, u1, u2, u3, ⟨u4, u5⟩, u6, u7⟩ := walk_beside (P := Try.prog) (Shun := ShB fun b => S b ∨ b = w.heap.size + 1 ∨ b = w.heap.size) (B := w.heap.size + 5) (D := DC S w) (fun w w' es hd => hd.2) _ n3 gs2 a2 w2 sl2 t2 q2 (Nat.le_refl _) k2 k4 (by rw [← hsz2]; exact k5) (g2 w2 ⟨g1, k6⟩)
  refine ⟨N1 + (N2 + N3), gs3, w3, sl3, t3, q3, ?_, ?_, u6, ?_, u5.fm.size, u5.fm.kp⟩
  · rw [runNT_add, r1]
    show runNT Try.prog (N2 + N3) (crowd gs1 w1 sl1) t1 = _
    rw [runNT_add, k1]
    exact u1
  · rw [u3, u4, emod_mod_eq]
  · rw [show w3.heap.size = w.heap.size + 5 from u5.fm.size]; exact u7
end Go.Proofs.Ytnikfjfcbpeieaa.Lk
end
