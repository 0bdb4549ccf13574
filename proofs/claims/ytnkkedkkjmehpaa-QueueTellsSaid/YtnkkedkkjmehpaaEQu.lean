/- The contracts of queue.Right and queue.passed (by hand). -/
import Derived.Test.YtnkkedkkjmehpaaShelf
import Derived.Test.YtnkkedkkjmehpaaWMore
import Derived.Conc.LoneCalls
import Derived.Conc.WalkWords
import Derived.WalkKit
import Derived.LoopTactic
import Derived.Laws.NewBlocks
import Derived.Maps.AppendAt
import Derived.Laws.OwnMore
import Derived.Lib.Hide
namespace Go.Proofs.Ytnkkedkkjmehpaa.EQu
open Go.RowKit Go.Conc Go.Proofs.YtnkkedkkjmehpaaW.PrintWords Go.Proofs.YtnkkedkkjmehpaaW.PrintLast Go.Proofs.YtnkkedkkjmehpaaW.PrintMore
set_option linter.unusedVariables false
set_option linter.unusedSimpArgs false

theorem bytes9 : ∃ i, Try.prog.info? 9 = some i ∧ i.bytes = 16 := by
  have h : (Try.prog.info? 9).map (·.bytes) = some 16 := by kernel_rfl
  obtain ⟨i, hi, hb⟩ := Option.map_eq_some_iff.1 h
  exact ⟨i, hi, hb⟩
theorem mk (w : World) (n : Nat) (hn : n ≤ 1000) : (Instr.makeChan 92 (.int .i64 ((n : Int) + 1))).run Try.prog w = .ok (.chan (some w.heap.size)) (w.alloc (.chan (n + 1) #[] false 0 0 false)) := by
  obtain ⟨i, hi, hb⟩ := bytes9
  have := run_makeChan (P := Try.prog) (w := w) Try.underlying92 hi .i64 (n + 1) (by omega) (by rw [hb]; omega)
  rw [show (((n + 1 : Nat)) : Int) = (n : Int) + 1 from by omega] at this
  exact this

/-- What the channel holds. -/
def Ch (g : Nat) (cap : Nat) (xs : List ByteArray) (cl : Bool) (W : World) : Prop := ∃ s r, W.heap[g]? = some (.chan cap (xs.map Value.string).toArray cl s r false)

theorem info9 : (Try.prog.info? 9).map (fun i => (i.zero, i.size, i.bytes)) = some (some (.string ⟨#[]⟩), 1, 16) := by kernel_rfl

/-! Ways into a piece of code. -/
def sL : Code → Code | .seq a _ => a | c => c
def sR : Code → Code | .seq _ b => b | c => c
def sB : Code → Code | .block _ c => c | c => c
def sLp : Code → Code | .loop c => c | c => c
noncomputable def body48 : Code := Try.f48.body.getD .skip
/-- The two sends and the receive. -/
noncomputable def loop1 : Code := sLp (sB (sR (sL (sR (sR body48)))))
noncomputable def send1 : Code := sR (sB (sL (sR (sR loop1))))
noncomputable def send2 : Code := sL (sR (sR (sR body48)))
noncomputable def loop2 : Code := sLp (sB (sR (sL (sR (sR (sR (sR (sR (sR body48)))))))))
noncomputable def recv1 : Code := sL loop2

theorem wp_of_lone {P : Program} {c : Code} {Q : Exit → Act → World → Prop} {a : Act} {w : World}
    (h : ∀ (b : Frame) (kk : List Item) (cs : List Frame), LoneTo P (fun g' w'' => ∃ a1, g' = G (b.at a1 kk) cs ∧ Q .normal a1 w'') (G (b.at a (.code c :: kk)) cs) w) : c.wp P Q a w := fun b k cs => by
  obtain ⟨g', w', hs, a1, e, hq⟩ := h b k cs
  subst e
  exact ⟨.normal, a1, w', hq, hs⟩

section
variable {P : Program} {main : Bool} {b : Frame} {a : Act} {k : List Item} {cs : List Frame} {w : World}
theorem stepG_value_any {ops : Array Oper} {i : Nat} {rest : List Nat} {o : Oper} {v : Value} {w' : World} (ho : ops[i]? = some o) (hw : Region.wanted o (yielded ops a.tmps) = true)
    (hr : (execOp a.eval o).run P w = .ok (.value v) w') :
    ∃ es, stepG P true (G (b.at a (.inRegion ops (i :: rest) :: k)) cs) w = .go (G (b.at (a.put o.dst v) (.inRegion ops rest :: k)) cs) w' es := by
  have hfin : (b.at a (.inRegion ops (i :: rest) :: k)).finish v = b.at (a.put o.dst v) (.inRegion ops rest :: k) := by rw [Frame.finish_at, ho]; rfl
  rw [stepG_oper ho hw, ← hfin]
  cases hk : (b.kind == CallKind.early) <;> simp [stepG.apply, hr, G, Frame.at, hk, GStep.after]
theorem stepG_comm_any {ops : Array Oper} {i : Nat} {rest : List Nat} {o : Oper} {cases : Array CommCase} {blocking : Bool} {shape : CommShape} {w' : World} (ho : ops[i]? = some o) (hw : Region.wanted o (yielded ops a.tmps) = true)
    (hr : (execOp a.eval o).run P w = .ok (.comm cases blocking shape) w') :
    ∃ es, stepG P true (G (b.at a (.inRegion ops (i :: rest) :: k)) cs) w = .comm (G (b.at a (.inRegion ops (i :: rest) :: k)) cs) cases blocking shape w' es := by
  rw [stepG_oper ho hw]
  cases hk : (b.kind == CallKind.early) <;> simp [stepG.apply, hr, G, Frame.at, hk, GStep.after]

theorem lone_value {Q : Goroutine → World → Prop} {ops : Array Oper} {i : Nat} {rest : List Nat} {o : Oper} {v : Value} {w' : World} (ho : ops[i]? = some o) (hw : Region.wanted o (yielded ops a.tmps) = true)
    (hr : (execOp a.eval o).run P w = .ok (.value v) w') (h : LoneTo P Q (G (b.at (a.put o.dst v) (.inRegion ops rest :: k)) cs) w') :
    LoneTo P Q (G (b.at a (.inRegion ops (i :: rest) :: k)) cs) w := by
  obtain ⟨es, he⟩ := stepG_value_any (b := b) (k := k) (cs := cs) (rest := rest) ho hw hr
  exact LoneTo.step (step_solo_go rfl he) h
theorem lone_region {Q : Goroutine → World → Prop} {id : Nat} {ops : Array Oper} (h : LoneTo P Q (G (b.at a (.inRegion ops (List.range ops.size) :: k)) cs) w) : LoneTo P Q (G (b.at a (.code (.region id ops false) :: k)) cs) w :=
  LoneTo.step (step_solo_go rfl stepG_region) h
theorem lone_region_end {Q : Goroutine → World → Prop} {ops : Array Oper} (h : LoneTo P Q (G (b.at a k) cs) w) : LoneTo P Q (G (b.at a (.inRegion ops [] :: k)) cs) w :=
  LoneTo.step (step_solo_go rfl stepG_region_end) h
theorem lone_send {Q : Goroutine → World → Prop} {ops : Array Oper} {i : Nat} {rest : List Nat} {o : Oper} {g cap s r : Nat} {v : Value} {buf : Array Value} (ho : ops[i]? = some o) (hw : Region.wanted o (yielded ops a.tmps) = true) (hd : o.dst = none)
    (hr : (execOp a.eval o).run P w = .ok (.comm #[scase g v (.tuple #[])] true .send) w) (hc : w.heap[g]? = some (.chan cap buf false s r false)) (hroom : buf.size < cap)
    (h : LoneTo P Q (G (b.at a (.inRegion ops rest :: k)) cs) (w.setChan g cap (buf.push v) false (s + 1) r false)) :
    LoneTo P Q (G (b.at a (.inRegion ops (i :: rest) :: k)) cs) w := by
  obtain ⟨es, he⟩ := stepG_comm_any (b := b) (k := k) (cs := cs) (rest := rest) ho hw hr
  refine LoneTo.step (step_lone_send_room he hc hroom) ?_
  have hfin : (b.at a (.inRegion ops (i :: rest) :: k)).finish undef = b.at a (.inRegion ops rest :: k) := by rw [Frame.finish_at, ho]; simp [hd, Act.put]
  rw [hfin]
  exact h
theorem lone_recv {Q : Goroutine → World → Prop} {ops : Array Oper} {i : Nat} {rest : List Nat} {o : Oper} {g cap s r : Nat} {z v : Value} {vs : List Value} {cl : Bool} (ho : ops[i]? = some o) (hw : Region.wanted o (yielded ops a.tmps) = true)
    (hr : (execOp a.eval o).run P w = .ok (.comm #[rcase g z] true (.recv true)) w) (hc : w.heap[g]? = some (.chan cap (v :: vs).toArray cl s r false))
    (h : LoneTo P Q (G (b.at (a.put o.dst (got true v true)) (.inRegion ops rest :: k)) cs) (w.setChan g cap vs.toArray cl s (r + 1) false)) :
    LoneTo P Q (G (b.at a (.inRegion ops (i :: rest) :: k)) cs) w := by
  obtain ⟨es, he⟩ := stepG_comm_any (b := b) (k := k) (cs := cs) (rest := rest) ho hw hr
  refine LoneTo.step (step_lone_recv_buf true he hc (by simp)) ?_
  have hfin : (b.at a (.inRegion ops (i :: rest) :: k)).finish (got true v true) = b.at (a.put o.dst (got true v true)) (.inRegion ops rest :: k) := by rw [Frame.finish_at, ho]; rfl
  have e1 : ((v :: vs).toArray).getD 0 undef = v := rfl
  have e2 : ((v :: vs).toArray).extract 1 ((v :: vs).toArray).size = vs.toArray := by simp
  rw [e1, e2, hfin]
  exact h
theorem lone_shut {Q : Goroutine → World → Prop} {ops : Array Oper} {i : Nat} {rest : List Nat} {o : Oper} {g cap s r : Nat} {z : Value} (ho : ops[i]? = some o) (hw : Region.wanted o (yielded ops a.tmps) = true)
    (hr : (execOp a.eval o).run P w = .ok (.comm #[rcase g z] true (.recv true)) w) (hc : w.heap[g]? = some (.chan cap #[] true s r false))
    (h : LoneTo P Q (G (b.at (a.put o.dst (got true z false)) (.inRegion ops rest :: k)) cs) w) :
    LoneTo P Q (G (b.at a (.inRegion ops (i :: rest) :: k)) cs) w := by
  obtain ⟨es, he⟩ := stepG_comm_any (b := b) (k := k) (cs := cs) (rest := rest) ho hw hr
  refine LoneTo.step (step_lone_recv_shut true he hc) ?_
  have hfin : (b.at a (.inRegion ops (i :: rest) :: k)).finish (got true z false) = b.at (a.put o.dst (got true z false)) (.inRegion ops rest :: k) := by rw [Frame.finish_at, ho]; rfl
  rw [hfin]
  exact h
end

theorem ch_set {w W : World} {g cap : Nat} {xs : List ByteArray} {cl : Bool} {s r : Nat} (x : ByteArray) (hc : W.heap[g]? = some (.chan cap (xs.map Value.string).toArray cl s r false)) (s' r' : Nat) (ys : List ByteArray) (cl' : Bool) : Ch g cap ys cl' (W.setChan g cap (ys.map Value.string).toArray cl' s' r' false) :=
  ⟨s', r', heap_setChan _ _ _ _ _ _ _ _ (Array.getElem?_eq_some_iff.1 hc).1⟩

theorem grown_chan (W : World) (g cap : Nat) (buf : Array Value) (cl : Bool) (s r : Nat) : W.grownBy (W.setChan g cap buf cl s r false) (some g) :=
  ⟨rfl, rfl, rfl, by rw [size_setChan]; exact Nat.le_refl _, fun k hk hne => by
    show (W.heap.setIfInBounds g _)[k]? = _
    rw [Array.getElem?_setIfInBounds]
    rw [if_neg (fun e => hne (by rw [e]))]⟩

theorem own_chan {W : World} {base n g cap s r : Nat} {e : TypeId} {size : Nat} {v : Value} {xs : List Value} {buf : Array Value} {cl : Bool} (h : W.ownsRow base e size v n xs) (hc : W.heap[g]? = some (.chan cap buf cl s r false)) (buf' : Array Value) (s' r' : Nat) : (W.setChan g cap buf' cl s' r' false).ownsRow base e size v n xs := by
  refine own_other h (grown_chan W g cap buf' cl s' r') ?_
  rcases h.2 with ⟨rfl, _⟩ | ⟨g', cp, cur, rfl, _, hh, _⟩
  · exact .inl rfl
  · refine .inr fun e' => ?_
    have e2 : g' = g := by simpa [Value.ownBlock] using e'
    subst e2
    rw [hc] at hh
    cases hh

theorem own_not_chan {W : World} {base n g cap s r : Nat} {e : TypeId} {size : Nat} {v : Value} {xs : List Value} {buf : Array Value} {cl : Bool} (h : W.ownsRow base e size v n xs) (hc : W.heap[g]? = some (.chan cap buf cl s r false)) : v.ownBlock = none ∨ v.ownBlock ≠ some g := by
  rcases h.2 with ⟨rfl, _⟩ | ⟨g', cp, cur, rfl, _, hh, _⟩
  · exact .inl rfl
  · refine .inr fun e' => ?_
    have e2 : g' = g := by simpa [Value.ownBlock] using e'
    subst e2
    rw [hc] at hh
    cases hh

set_option maxRecDepth 100000 in
set_option maxHeartbeats 1000000 in
theorem passed_any (A : Option Addr) (c : Nat) (l : List ByteArray) (s : ByteArray) (w : World) (hC : Kd.C Kd.string w A l.length l) (hl : l.length ≤ 100) :
    Calls Try.prog 48 #[.slice A l.length c, .string s] w fun e w' => ∃ v, e = .returned v ∧ w'.ownsRow w.heap.size 9 1 v (l.length + 1) ((l ++ [s]).map Value.string) ∧ Below w.heap.size w w' := by
  have HC := Aside0.mk hC
  clear hC
  have hmk := mk w l.length (by omega)
  obtain ⟨X5, h5⟩ : ∃ X, X = send1 := ⟨_, rfl⟩
  obtain ⟨X7, h7⟩ : ∃ X, X = send2 := ⟨_, rfl⟩
  obtain ⟨X11, h11⟩ : ∃ X, X = recv1 := ⟨_, rfl⟩
  simp only [send1, send2, recv1, loop1, loop2, sL, sR, sB, sLp, body48, Try.f48, Option.getD_some] at h5 h7 h11
  go_enter Try.func48, Try.ntmps48
  rw [← h7]
  have H5 := Lib.hid h5
  have H7 := Lib.hid h7
  have H11 := Lib.hid h11
  clear h5 h7 h11
  go_wp2_with fail
  go_loopw [16] (fun i wr => ∃ k : Nat, k ≤ l.length ∧ i = .int .i64 k ∧ Aside0 (Ch w.heap.size (l.length + 1) (l.take k) false wr) ∧ Aside0 (Below w.heap.size w wr) ∧ Aside0 (wr.heap.size = w.heap.size + 1)) (fun i _ => l.length - (intOf i).toNat)
  case atStart => exact ⟨0, Nat.zero_le _, rfl, ⟨⟨0, 0, by simpa using blk_new w _⟩⟩, ⟨(Below.refl _ _).alloc (Nat.le_refl _) _⟩, ⟨by simp⟩⟩
  case round =>
    rw [← H5.out]
    obtain ⟨k, hk, rfl, HCh, HB, HZ⟩ := hrel
    by_cases hlt : k < l.length
    · have hCr := Kd.C_below HC.out HB.out
      obtain ⟨ad, e, hx⟩ := Kd.at_string hCr (k : Int) (by omega) (by omega)
      subst e
      rw [Int.toNat_natCast] at hx
      clear hCr
      generalize hxk : rdOf ByteArray.empty l (k : Int) = x at hx
      go_wp2_with fail
      rw [H5.out]
      refine wp_of_lone fun b kk cs => ?_
      obtain ⟨sc, rc, hch⟩ := HCh.out
      refine lone_region ?_
      refine lone_value (w' := wr) (v := .chan (some w.heap.size)) rfl rfl (by simp [go_sem, Act.eval]) ?_
      refine lone_value (w' := wr) (v := .string x) rfl rfl (by simp [go_sem, Act.eval]) ?_
      refine lone_send (g := w.heap.size) (v := .string x) rfl rfl rfl (by first | rfl | (simp [execOp, scase, Act.eval, Act.put]; done)) hch (by simp; omega) ?_
      refine lone_region_end ?_
      refine LoneTo.done ⟨_, rfl, ?_⟩
      have e1 : (((l.take k).map Value.string).toArray.push (Value.string x)) = ((l.take (k + 1)).map Value.string).toArray := by
        have hl1 : l.take (k + 1) = l.take k ++ [x] := by
          rw [List.take_succ_eq_append_getElem hlt, ← hxk]
          simp [rdOf, hlt]
        rw [hl1]; simp
      rw [e1]
      have hCh2 := ch_set (w := w) x hch (sc + 1) rc (l.take (k + 1)) false
      have hB2 := below_setChan (c := w.heap.size) HB.out (Nat.le_refl _) (l.length + 1) ((l.take (k + 1)).map Value.string).toArray false (sc + 1) rc false
      have hZ2 := (size_setChan wr w.heap.size (l.length + 1) ((l.take (k + 1)).map Value.string).toArray false (sc + 1) rc false).trans HZ.out
      generalize wr.setChan w.heap.size (l.length + 1) ((l.take (k + 1)).map Value.string).toArray false (sc + 1) rc false = W2 at hCh2 hB2 hZ2
      go_wp2_with fail
      go_roundw
      case rel => exact ⟨k + 1, by omega, by go_num, ⟨hCh2⟩, ⟨hB2⟩, ⟨hZ2⟩⟩
      case measure => simp [intOf]; omega
    · obtain rfl : k = l.length := by omega
      obtain ⟨sc, rc, hch⟩ := HCh.out
      rw [List.take_length] at hch
      go_wp2_with fail
      rw [H7.out]
      refine wp_of_lone fun b kk cs => ?_
      refine lone_region ?_
      refine lone_value (w' := wr) (v := .chan (some w.heap.size)) rfl rfl (by simp [go_sem, Act.eval]) ?_
      refine lone_value (w' := wr) (v := .string s) rfl rfl (by simp [go_sem, Act.eval]) ?_
      refine lone_send (g := w.heap.size) (v := .string s) rfl rfl rfl (by first | rfl | (simp [execOp, scase, Act.eval, Act.put]; done)) hch (by simp) ?_
      refine lone_region_end ?_
      refine LoneTo.done ⟨_, rfl, ?_⟩
      have e1 : ((l.map Value.string).toArray.push (Value.string s)) = ((l ++ [s]).map Value.string).toArray := by simp
      rw [e1]
      have hCh2 := (ch_set (w := w) s hch (sc + 1) rc (l ++ [s]) false)
      have hB2 := below_setChan (c := w.heap.size) HB.out (Nat.le_refl _) (l.length + 1) ((l ++ [s]).map Value.string).toArray false (sc + 1) rc false
      have hZ2 := (size_setChan wr w.heap.size (l.length + 1) ((l ++ [s]).map Value.string).toArray false (sc + 1) rc false).trans HZ.out
      generalize wr.setChan w.heap.size (l.length + 1) ((l ++ [s]).map Value.string).toArray false (sc + 1) rc false = W2 at hCh2 hB2 hZ2
      obtain ⟨s2, r2, hch2⟩ := hCh2
      have hcl0 := run_close_open (P := Try.prog) #[92] 0 hch2
      have hCh3 := ch_set (w := w) s hch2 s2 r2 (l ++ [s]) true
      have hB3 := below_setChan (c := w.heap.size) hB2 (Nat.le_refl _) (l.length + 1) ((l ++ [s]).map Value.string).toArray true s2 r2 false
      have hZ3 := (size_setChan W2 w.heap.size (l.length + 1) ((l ++ [s]).map Value.string).toArray true s2 r2 false).trans hZ2
      have hcl : (Builtin.close_ #[92] 0 #[.chan (some w.heap.size)]).run Try.prog W2 = .ok (.tuple #[]) (W2.setChan w.heap.size (l.length + 1) ((l ++ [s]).map Value.string).toArray true s2 r2 false) := hcl0
      clear hcl0
      generalize W2.setChan w.heap.size (l.length + 1) ((l ++ [s]).map Value.string).toArray true s2 r2 false = W3 at hCh3 hB3 hZ3 hcl
      have HCh0 := Lib.hid hCh3
      have HB0 := Lib.hid hB3
      have HZ0 := Lib.hid hZ3
      clear hCh3 hB3 hZ3 hch2 hB2 hZ2 hch HCh HB HZ
      go_wp2_with fail
      obtain ⟨i0, hi, hz0, hz1, hz2⟩ := info_parts info9
      go_loopw [8] (fun v wr => ∃ k : Nat, k ≤ l.length + 1 ∧ Aside0 (Ch w.heap.size (l.length + 1) ((l ++ [s]).drop k) true wr) ∧ Aside0 (Below w.heap.size w wr) ∧ Aside0 (w.heap.size < wr.heap.size) ∧ Aside0 (wr.ownsRow w.heap.size 9 1 v k (((l ++ [s]).take k).map Value.string))) (fun _ wr => match wr.heap[w.heap.size]? with | some (.chan _ buf _ _ _ _) => buf.size | _ => 0)
      case atStart => exact ⟨0, Nat.zero_le _, ⟨HCh0.out⟩, ⟨HB0.out⟩, ⟨by have := HZ0.out; omega⟩, ⟨World.ownsRow_nil _ _ _ _⟩⟩
      case round =>
        rw [← H11.out]
        obtain ⟨k, hk, HCh3, HB3, HZ3, HO3⟩ := hrel
        obtain ⟨s3, r3, hch3⟩ := HCh3.out
        have hlen : (l ++ [s]).length = l.length + 1 := by simp
        by_cases hlt : k < l.length + 1
        · have hkx : k < (l ++ [s]).length := by omega
          obtain ⟨x, hx⟩ : ∃ x, x = (l ++ [s])[k]'hkx := ⟨_, rfl⟩
          rw [List.drop_eq_getElem_cons hkx, ← hx, List.map_cons] at hch3
          have htk : (l ++ [s]).take (k + 1) = (l ++ [s]).take k ++ [x] := by rw [List.take_succ_eq_append_getElem hkx, hx]
          have HT := Lib.hid htk
          clear htk hx
          go_wp2_with fail
          rw [H11.out]
          refine wp_of_lone fun b kk cs => ?_
          refine lone_region ?_
          refine lone_recv (g := w.heap.size) (z := .string ⟨#[]⟩) (v := .string x) (vs := ((l ++ [s]).drop (k + 1)).map Value.string) rfl rfl (by first | rfl | (simp [go_sem, rcase]; done) | (go_simp; simp [rcase])) hch3 ?_
          rw [show got true (.string x) true = .tuple #[.string x, .bool true] from rfl]
          refine lone_value (w' := wr.setChan w.heap.size (l.length + 1) (((l ++ [s]).drop (k + 1)).map Value.string).toArray true s3 (r3 + 1) false) (v := .bool true) rfl rfl (by first | rfl | (simp [go_sem, Act.eval, got]; done)) ?_
          refine lone_region_end ?_
          refine LoneTo.done ⟨_, rfl, ?_⟩
          have hCh4 := (ch_set (w := w) (xs := (x :: (l ++ [s]).drop (k + 1))) s (by simpa using hch3) s3 (r3 + 1) ((l ++ [s]).drop (k + 1)) true)
          have hB4 := below_setChan (c := w.heap.size) HB3.out (Nat.le_refl _) (l.length + 1) (((l ++ [s]).drop (k + 1)).map Value.string).toArray true s3 (r3 + 1) false
          have hZ4 := size_setChan wr w.heap.size (l.length + 1) (((l ++ [s]).drop (k + 1)).map Value.string).toArray true s3 (r3 + 1) false
          have hO4 := own_chan HO3.out hch3 (((l ++ [s]).drop (k + 1)).map Value.string).toArray s3 (r3 + 1)
          have hZ5 := HZ3.out
          generalize wr.setChan w.heap.size (l.length + 1) (((l ++ [s]).drop (k + 1)).map Value.string).toArray true s3 (r3 + 1) false = W4 at hCh4 hB4 hZ4 hO4
          have hg4 : w.heap.size < W4.heap.size := by omega
          clear hZ4 hZ5
          go_wp2_with (at_builtin; refine wpList_append_own _ rfl _ _ 33 rfl w.heap.size 9 i0 (.string ⟨#[]⟩) 1 16 Try.underlying33 hi hz0 hz1 hz2 rfl (by decide) _ _ _ rfl (hO4.alloc _) ⟨W4.heap.size, 0, none⟩ 1 1 [.string x] rfl rfl (cell_one_new _ _ _) (by simp [Value.oneCell']) (by unfold maxLen; omega) (by omega) (by simp; omega) ?_; intro v' w5 hown' hgrow _)
          obtain ⟨s5, r5, hch5⟩ := hCh4
          have hne5 := own_not_chan hO4 hch5
          have hgrow2 : (W4.alloc (.cells #[.string x] 9)).grownBy w5 u8.ownBlock := hgrow
          have hch6 : w5.heap[w.heap.size]? = some (.chan (l.length + 1) (((l ++ [s]).drop (k + 1)).map Value.string).toArray true s5 r5 false) :=
            (hgrow2.block w.heap.size (by simp; omega) (fun e => hne5.elim (fun h => by rw [h] at e; cases e) (fun h => h e.symm))).trans (blk_alloc hch5 _)
          have hB6 : Below w.heap.size w w5 := (hB4.alloc (by omega) _).grown hgrow2 (by simp; omega) (fun q hq => (hO4.lt q hq).1)
          have hZ6 : w.heap.size < w5.heap.size := Nat.lt_of_lt_of_le (by simp; omega) hgrow2.size
          go_wp2_with fail
          go_roundw
          case rel => exact ⟨k + 1, by omega, ⟨⟨s5, r5, hch6⟩⟩, ⟨hB6⟩, ⟨hZ6⟩, ⟨by rw [HT.out]; simpa using hown'⟩⟩
          case measure =>
            rw [hch6, hch3]
            simp
        · obtain rfl : k = l.length + 1 := by omega
          rw [List.drop_of_length_le (by omega)] at hch3
          go_wp2_with fail
          rw [H11.out]
          refine wp_of_lone fun b kk cs => ?_
          refine lone_region ?_
          refine lone_shut (g := w.heap.size) (z := .string ⟨#[]⟩) rfl rfl (by first | rfl | (simp [go_sem, rcase]; done)) hch3 ?_
          rw [show got true (.string ⟨#[]⟩) false = .tuple #[.string ⟨#[]⟩, .bool false] from rfl]
          refine lone_value (w' := wr) (v := .bool false) rfl rfl (by first | rfl | (simp [go_sem, Act.eval, got]; done)) ?_
          refine lone_region_end ?_
          refine LoneTo.done ⟨_, rfl, ?_⟩
          have hO7 := HO3.out
          rw [List.take_of_length_le (by omega)] at hO7
          go_wp2_with fail
          go_ret
          exact ⟨u8, rfl, hO7, HB3.out⟩

/-- Too long. -/
def longB (s : ByteArray) : Bool := decide (114 < s.size)

theorem long_any (s : ByteArray) (w : World) : Calls Try.prog 50 #[.string s] w fun e w' => e = .returned (.bool (longB s)) ∧ w' = w := by
  go_enter Try.func50, Try.ntmps50
  go_wp2
  go_ret
  exact ⟨by simp [longB]; omega, rfl⟩

theorem takeS (l : List ByteArray) (k : Nat) (h : k < l.length) : l.take (k + 1) = l.take k ++ [rdOf ByteArray.empty l (k : Int)] := by
  rw [List.take_succ_eq_append_getElem h]
  simp [rdOf, h]

set_option maxRecDepth 100000 in
set_option maxHeartbeats 1000000 in
theorem index_any (A : Option Addr) (c : Nat) (l : List ByteArray) (w : World) (hC : Kd.C Kd.string w A l.length l) (hl : l.length ≤ 1000) :
    Calls Try.prog 60 #[.slice A l.length c, .func (.func 50) #[] #[]] w fun e w' => ∃ i : Int, e = .returned (.int .i64 i) ∧ decide (0 ≤ i) = l.any longB ∧ Below w.heap.size w w' := by
  have HC := Aside0.mk hC
  clear hC
  go_enter Try.func60, Try.ntmps60
  go_wp2
  go_loopw [8] (fun i wr => ∃ k : Nat, k ≤ l.length ∧ i = .int .i64 k ∧ (l.take k).any longB = false ∧ Aside0 (Below w.heap.size w wr)) (fun i _ => l.length - (intOf i).toNat)
  case atStart => exact ⟨0, Nat.zero_le _, rfl, rfl, ⟨Below.refl _ _⟩⟩
  case round =>
    obtain ⟨k, hk, rfl, hno, HB⟩ := hrel
    by_cases hlt : k < l.length
    · have hCr := Kd.C_below (w1 := wr) HC.out HB.out
      obtain ⟨ad, e, hx0⟩ := Kd.at_string hCr (k : Int) (by omega) (by omega)
      subst e
      rw [Int.toNat_natCast] at hx0
      have HT := Aside0.mk (takeS l k hlt)
      generalize rdOf ByteArray.empty l (k : Int) = x at hx0 HT
      clear hCr
      have HH := long_any x
      cases ho : longB x
      · rw [ho] at HH
        go_wp2_with (go_at_call 50; refine (HH _).mono ?_; rintro e w1 ⟨rfl, rfl⟩)
        go_roundw
        case rel => exact ⟨k + 1, by omega, by go_num, by rw [HT.out, List.any_append, hno]; simpa using ho, HB⟩
        case measure => simp [intOf]; omega
      · rw [ho] at HH
        go_wp2_with (go_at_call 50; refine (HH _).mono ?_; rintro e w1 ⟨rfl, rfl⟩)
        go_ret
        refine ⟨_, rfl, ?_, HB.out⟩
        have h1 : (l.take (k + 1)).any longB = true := by rw [HT.out, List.any_append, hno]; simpa using ho
        have h2 : l.any longB = true := by
          obtain ⟨y, hy, hy2⟩ := List.any_eq_true.1 h1
          exact List.any_eq_true.2 ⟨y, List.mem_of_mem_take hy, hy2⟩
        rw [h2]; simp
    · obtain rfl : k = l.length := by omega
      go_wp2
      go_ret
      rw [List.take_length] at hno
      exact ⟨_, rfl, by rw [hno]; rfl, HB.out⟩

theorem contains_any (A : Option Addr) (c : Nat) (l : List ByteArray) (w : World) (hC : Kd.C Kd.string w A l.length l) (hl : l.length ≤ 1000) :
    Calls Try.prog 49 #[.slice A l.length c, .func (.func 50) #[] #[]] w fun e w' => e = .returned (.bool (l.any longB)) ∧ Below w.heap.size w w' := by
  have HI := index_any A c l
  go_enter Try.func49, Try.ntmps49
  go_wp2_with (go_at_call 60; refine (HI _ hC hl).mono ?_; rintro e w1 ⟨i, rfl, hi, hb⟩)
  go_ret
  exact ⟨rfl, hb⟩

/-- May a queue be? -/
def rightQ (cap : Int) (l : List ByteArray) (lost : Int) : Bool := !(l.any longB) && (decide (1 ≤ cap) && (decide (cap ≤ 32) && (decide ((l.length : Int) ≤ cap) && (decide (0 ≤ lost) && decide (lost ≤ 1000000)))))

set_option maxRecDepth 100000 in
set_option maxHeartbeats 2000000 in
theorem right_any (cap : Int) (A : Option Addr) (c : Nat) (l : List ByteArray) (lost : Int) (w : World) (hC : Kd.C Kd.string w A l.length l) (hl : l.length ≤ 1000) :
    Calls Try.prog 25 #[.agg #[.int .i64 cap, .slice A l.length c, .int .i64 lost]] w fun e w' => e = .returned (.bool (rightQ cap l lost)) ∧ Below w.heap.size w w' := by
  have HI := contains_any A c l (w.alloc (.cells #[.int .i64 cap, .slice A l.length c, .int .i64 lost] 35)) (Kd.C_below hC (below_alloc (Below.refl _ _) _)) hl
  have hu35 := Try.underlying35
  have cells : ∀ w1, Below (w.alloc (.cells #[.int .i64 cap, .slice A l.length c, .int .i64 lost] 35)).heap.size (w.alloc (.cells #[.int .i64 cap, .slice A l.length c, .int .i64 lost] 35)) w1 → w1.heap[w.heap.size]? = some (.cells #[.int .i64 cap, .slice A l.length c, .int .i64 lost] 35) := fun w1 hb => blk_below (blk_new w _) hb
  have fin : ∀ w1, Below (w.alloc (.cells #[.int .i64 cap, .slice A l.length c, .int .i64 lost] 35)).heap.size (w.alloc (.cells #[.int .i64 cap, .slice A l.length c, .int .i64 lost] 35)) w1 → Below w.heap.size w w1 := fun w1 hb => ((Below.refl _ w).alloc (Nat.le_refl _) _).trans (hb.mono (by simp))
  have HFIN := Lib.hid fin
  have HCEL := Lib.hid cells
  clear fin cells
  have goal : ∀ (b0 b1 b2 b3 b4 b5 : Bool), l.any longB = b0 → decide (1 ≤ cap) = b1 → decide (cap ≤ 32) = b2 → decide ((l.length : Int) ≤ cap) = b3 → decide (0 ≤ lost) = b4 → decide (lost ≤ 1000000) = b5 →
      Calls Try.prog 25 #[.agg #[.int .i64 cap, .slice A l.length c, .int .i64 lost]] w fun e w' => e = .returned (.bool (!b0 && (b1 && (b2 && (b3 && (b4 && b5)))))) ∧ Below w.heap.size w w' := by
    intro b0 b1 b2 b3 b4 b5 e0 e1 e2 e3 e4 e5
    rw [e0] at HI
    clear e0
    cases b0 <;> cases b1 <;> cases b2 <;> cases b3 <;> cases b4 <;> cases b5 <;>
    · go_enter Try.func25, Try.ntmps25
      go_wp2_with (go_at_call 49; refine HI.mono ?_; rintro e w1 ⟨rfl, hb⟩; have hcl := HCEL.out w1 hb; have hc0 : w1.cell? ⟨w.heap.size, 0, none⟩ = some (.int .i64 cap) := blk_cell hcl 0; have hc1 : w1.cell? ⟨w.heap.size, 1, none⟩ = some (.slice A l.length c) := blk_cell hcl 1; have hc2 : w1.cell? ⟨w.heap.size, 2, none⟩ = some (.int .i64 lost) := blk_cell hcl 2; clear hcl)
      go_ret
      exact ⟨rfl, HFIN.out w1 hb⟩
  exact goal _ _ _ _ _ _ rfl rfl rfl rfl rfl rfl

def queue_Right.f (a0_0 : Int) (l0_1 : List ByteArray) (a0_2 : Int) : Option Bool := if l0_1.length ≤ 1000 then some (rightQ a0_0 l0_1 a0_2) else none

theorem queue_Right.calls (a0_0 : Int) (A0_1 : Option Addr) (c0_1 : Nat) (l0_1 : List ByteArray) (a0_2 : Int) (r : Bool) (w : World) (hr0_1 : Kd.C Kd.string w A0_1 l0_1.length l0_1) (hc0_1 : l0_1.length ≤ c0_1) (h : queue_Right.f a0_0 l0_1 a0_2 = some r) :
    Calls Try.prog 25 #[.agg #[.int .i64 a0_0, .slice A0_1 l0_1.length c0_1, .int .i64 a0_2]] w fun e w' => e = .returned (.bool r) ∧ Below w.heap.size w w' := by
  unfold queue_Right.f at h
  split at h
  · rename_i hl
    obtain rfl := Option.some.inj h
    exact right_any a0_0 A0_1 c0_1 l0_1 a0_2 w hr0_1 hl
  · cases h

def queue_passed.f (l0 : List ByteArray) (a1 : ByteArray) : Option (List ByteArray) := if l0.length ≤ 100 then some (l0 ++ [a1]) else none

theorem queue_passed.calls (A0 : Option Addr) (c0 : Nat) (l0 : List ByteArray) (a1 : ByteArray) (r : List ByteArray) (w : World) (hr0 : Kd.C Kd.string w A0 l0.length l0) (hc0 : l0.length ≤ c0) (h : queue_passed.f l0 a1 = some r) :
    Calls Try.prog 48 #[.slice A0 l0.length c0, .string a1] w fun e w' => ∃ v0_ : Value, e = .returned v0_ ∧ Kd.R Kd.string 9 w' w.heap.size (fun _ => True) v0_ r ∧ Below w.heap.size w w' := by
  unfold queue_passed.f at h
  split at h
  · rename_i hl
    obtain rfl := Option.some.inj h
    refine (passed_any A0 c0 l0 a1 w hr0 hl).mono ?_
    rintro e w' ⟨v, rfl, hown, hb⟩
    rw [show l0.length + 1 = (l0 ++ [a1]).length from by simp] at hown
    exact ⟨v, rfl, Kd.R_of_own hown (fun _ _ => trivial), hb⟩
  · cases h
end Go.Proofs.Ytnkkedkkjmehpaa.EQu
