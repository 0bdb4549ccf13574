/- A worker's own block: it makes it, writes it, reads it; small laws for walks. -/
/- A worker's own block: made, written, read. -/
/- hash.Bucket, in company. Written by mkhb.py. -/
/- A worker of hash.Spread, from its birth to its release. Written by mkhw.py. -/
import Derived.Test.YtnikfjfcbpeieaaMH1
import Derived.Laws.BytesString
import Derived.Laws.Slices
import Derived.Conc.Own4
import Derived.Test.YtnikfjfcbpeieaaMH2
import Derived.Test.YtnikfjfcbpeieaaMXb
import Derived.Test.YtnikfjfcbpeieaaMH4
section
namespace Go.Proofs.Ytnikfjfcbpeieaa.Hk
open Go Go.Conc Go.RowKit Go.Proofs.Ytnikfjfcbpeieaa.Lk
open Go.ConcR.Gen
set_option linter.unusedVariables false
set_option linter.unusedSimpArgs false
section
variable {P : Program} {main : Bool} {R R' : World → World → Prop} {D D' : World → World → Array Event → Prop} {Stop : Goroutine → World → Prop} {F F' : World → Prop}
theorem Goes.sub (hR : ∀ a b, R' a b → R a b) (hD : ∀ a b c, D a b c → D' a b c) : ∀ (n : Nat) (g : Goroutine) (w : World), Goes P main R D Stop n g w → Goes P main R' D' Stop n g w := by
 intro n
 induction n with
 | zero => exact fun g w h w₁ h₁ => h w₁ (hR _ _ h₁)
 | succ n ih =>
  intro g w h
  rcases h with h | ⟨hs, h⟩
  ·exact .inl fun w₁ h₁ => h w₁ (hR _ _ h₁)
  ·refine .inr ⟨hs, fun w₁ h₁ => ?_⟩
   have := h w₁ (hR _ _ h₁)
   revert this
   cases stepG P main g w₁ <;> simp only [GStep.goes, imp_self]
   exact fun ⟨d, x⟩ => ⟨hD _ _ _ d, ih _ _ x⟩
theorem Gs.sub {g : Goroutine} (hR : ∀ a b, R' a b → R a b) (hD : ∀ a b c, D a b c → D' a b c) (hF : ∀ w, F' w → F w) (h : Gs P main R D Stop F g) : Gs P main R' D' Stop F' g :=
 let ⟨n, h⟩ := h; ⟨n, fun w hw => Goes.sub hR hD n g w (h w (hF w hw))⟩
variable {b : Frame} {cs : List Frame} {N : Nat} {ds : List Deferred} {ρ : Rho} {k : List Item} {ops : Array Oper} {i : Nat} {rest : List Nat} {o : Oper}
theorem GE.turn {d : Option Tmp} {v : Value} (U : Rule R D F) (hd : d.all (· < N) = true) (hs : ∀ T : Array Value, T.size = N → Looks ρ T → ∀ w, F w → ∃ w' es, stepG P main (G (b.at ⟨T, ds⟩ (.inRegion ops (i :: rest) :: k)) cs) w = .go (G (b.at (Act.put ⟨T, ds⟩ d v) (.inRegion ops rest :: k)) cs) w' es ∧ D w w' es ∧ F' w')
  (h : GE P main R D Stop F' b cs N ds (ρ.put d v) (.inRegion ops rest :: k)) : GE P main R D Stop F b cs N ds ρ (.inRegion ops (i :: rest) :: k) :=
 fun T hT hl => Gs.step U rfl (hs T hT hl) (GE.put hd hT hl h)
theorem GE.len {x : Operand} {ats : Array TypeId} {u : Value} {l : Int} (U : Rule R D F) (ho : ops[i]? = some o) (hop : o.op = .call { callee := .builtin .len, args := #[x], argTypes := ats }) (hw : wantB ops ρ o = some true) (hk : b.kind ≠ .early) (hd : o.dst.all (· < N) = true) (hx : ev ρ x = some u)
  (hr : ∀ w, F w → (Builtin.len_ ats o.type #[u]).run P w = .ok (.int .i64 l) w) (he : ∀ w, F w → (Builtin.len_ ats o.type #[u]).events P w #[] = #[])
  (h : GE P main R D Stop F b cs N ds (ρ.put o.dst (.int .i64 l)) (.inRegion ops rest :: k)) : GE P main R D Stop F b cs N ds ρ (.inRegion ops (i :: rest) :: k) :=
 GE.val U ho hw hk hd (fun e h' w hF => by
  have h1 := h' x _ hx
  have h2 := hr w hF
  have h3 := he w hF
  constructor
  ·simp [execOp, hop, go_sem, h1, h2, Result.andThen]
  ·simp [execOp, hop, go_sem, h1, h2, h3, Result.evThen]) h
theorem GE.sl {x : Operand} {lo hi mx : Option Operand} {t : TypeId} {u v : Value} (vl vh vm : Option Value) (U : Rule R D F) (ho : ops[i]? = some o) (hop : o.op = .slice t x lo hi mx) (hw : wantB ops ρ o = some true) (hk : b.kind ≠ .early) (hd : o.dst.all (· < N) = true) (hx : ev ρ x = some u)
  (hlo : ∀ e : Operand → Value, (∀ x u, ev ρ x = some u → e x = u) → lo.map e = vl ∧ hi.map e = vh ∧ mx.map e = vm)
  (hr : ∀ w, F w → (Instr.sliceAt t u vl vh vm).run P w = .ok v w) (he : ∀ w, F w → (Instr.sliceAt t u vl vh vm).events P w #[] = #[])
  (h : GE P main R D Stop F b cs N ds (ρ.put o.dst v) (.inRegion ops rest :: k)) : GE P main R D Stop F b cs N ds ρ (.inRegion ops (i :: rest) :: k) :=
 GE.ask U ho hw hk hd (fun e h' => by obtain ⟨h1, h2, h3⟩ := hlo e h'; simp only [execOp, hop, h' x _ hx, h1, h2, h3]) hr he h
theorem GE.rd {x : Operand} {t : TypeId} {u v : Value} (U : Rule R D F) (ho : ops[i]? = some o) (hop : o.op = .load t x) (hw : wantB ops ρ o = some true) (hk : b.kind ≠ .early) (hd : o.dst.all (· < N) = true) (hx : ev ρ x = some u)
  (hr : ∀ w, F w → (Instr.loadAt t u).run P w = .ok v w) (he : ∀ w, F w → ∀ es : Array Event, (∀ e ∈ es, e ∈ (Instr.loadAt t u).events P w #[]) → D w w es)
  (h : GE P main R D Stop F b cs N ds (ρ.put o.dst v) (.inRegion ops rest :: k)) : GE P main R D Stop F b cs N ds ρ (.inRegion ops (i :: rest) :: k) :=
 GE.turn U hd (fun T hT hl w hF => by
  have e1 : execOp (Act.mk T ds).eval o = (do Pure.pure (Next.value (← Instr.loadAt t u))) := by simp only [execOp, hop, hl.ev hx]
  refine ⟨w, _, stepG_value ho (hl.want hw) hk (by rw [e1]; simp [hr w hF, Result.andThen]), ?_, hF⟩
  refine he w hF _ fun e hm => ?_
  have hm' := mem_listed hm
  rw [e1] at hm'
  simpa [hr w hF, Result.evThen] using hm') h
theorem GE.ret1 {fn : Func} {t : Tmp} {v : Value} {b₀ : Frame} {a₀ : Act} {ops₀ : Array Oper} {i₀ : Nat} {rest₀ : List Nat} {k₀ : List Item} {cs₀ : List Frame} (U : Rule R D F) (hn : b.kind = .normal) (hf : P.funcs[b.fn]? = some fn) (hr : fn.results = #[.tmp t]) (hv : ρ.get t = some v)
  (h : Gs P main R D Stop F (G (b₀.at (a₀.put ((ops₀[i₀]?).bind (·.dst)) v) (.inRegion ops₀ rest₀ :: k₀)) cs₀)) : GE P main R D Stop F b (b₀.at a₀ (.inRegion ops₀ (i₀ :: rest₀) :: k₀) :: cs₀) N [] ρ (.code .ret :: k) :=
 fun T hT hl => Gs.ret U (Gs.leave1 U hn rfl hf hr (by
  have := hl t v hv
  rw [show (Act.mk T []).tmps.getD t undef = v by simp [this]]
  exact h))
theorem GE.ret2 {fn : Func} {t u : Tmp} {v v' : Value} {b₀ : Frame} {a₀ : Act} {ops₀ : Array Oper} {i₀ : Nat} {rest₀ : List Nat} {k₀ : List Item} {cs₀ : List Frame} (U : Rule R D F) (hn : b.kind = .normal) (hf : P.funcs[b.fn]? = some fn) (hr : fn.results = #[.tmp t, .tmp u]) (hv : ρ.get t = some v) (hv' : ρ.get u = some v')
  (h : Gs P main R D Stop F (G (b₀.at (a₀.put ((ops₀[i₀]?).bind (·.dst)) (.tuple #[v, v'])) (.inRegion ops₀ rest₀ :: k₀)) cs₀)) : GE P main R D Stop F b (b₀.at a₀ (.inRegion ops₀ (i₀ :: rest₀) :: k₀) :: cs₀) N [] ρ (.code .ret :: k) :=
 fun T hT hl => Gs.ret U (Gs.goes U rfl (fun _ _ _ hK => goes_leave2 hn rfl hf hr hK) (by
  have h1 := hl t v hv
  have h2 := hl u v' hv'
  rw [show (Act.mk T []).tmps.getD t undef = v by simp [h1], show (Act.mk T []).tmps.getD u undef = v' by simp [h2]]
  exact h))
end
end Go.Proofs.Ytnikfjfcbpeieaa.Hk
end
section
namespace Go.Proofs.Ytnikfjfcbpeieaa.Hk
open Go Go.Conc Go.RowKit Go.Proofs.Ytnikfjfcbpeieaa.Lk
open Go.ConcR.Gen
set_option linter.unusedVariables false
set_option linter.unusedSimpArgs false
def zero6 : List Value := [.int .u8 0, .int .u8 0, .int .u8 0, .int .u8 0, .int .u8 0, .int .u8 0]
theorem run_alloc91 (w : World) : (Instr.alloc 91 true (.tuple #[])).run Try.prog w = .ok (.pointer (some ⟨w.heap.size, 0, none⟩)) (w.alloc (.cells zero6.toArray 91)) := by
 go_simp
 rfl
theorem ev_alloc91 (w : World) : (Instr.alloc 91 true (.tuple #[])).events Try.prog w #[] = #[] := by simp [go_sem]
theorem run_storeI (w : World) {t : TypeId} (ht : t = 5 ∨ t = 3) {ad : Addr} {k : IntKind} {z : Int} {u : Value} (hc : w.cell? ad = some u) (hz : w.frozen? ad = false) : (Instr.storeAt t (.pointer (some ad)) (.int k z)).run Try.prog w = .ok () (w.setCell ad (.int k z)) := by
 rcases ht with rfl | rfl <;> go_simp
theorem ev_storeI (w : World) {t : TypeId} (ht : t = 5 ∨ t = 3) {ad : Addr} {k : IntKind} {z : Int} {u : Value} (hc : w.cell? ad = some u) (hz : w.frozen? ad = false) : (Instr.storeAt t (.pointer (some ad)) (.int k z)).events Try.prog w #[] = #[⟨.cell ad, true, false⟩] := by
 rcases ht with rfl | rfl <;> simp [go_sem, hc, hz]
theorem run_loadI (w : World) {ad : Addr} {u : Value} (hc : w.cell? ad = some u) : (Instr.loadAt 3 (.pointer (some ad))).run Try.prog w = .ok u w := by
 go_simp
theorem ev_loadI (w : World) {ad : Addr} {u : Value} (hc : w.cell? ad = some u) : (Instr.loadAt 3 (.pointer (some ad))).events Try.prog w #[] = #[⟨.cell ad, false, false⟩] := by
 simp [go_sem, hc]
theorem run_load57 (w : World) {ad : Addr} {u : Value} (hc : w.cell? ad = some u) : (Instr.loadAt 57 (.pointer (some ad))).run Try.prog w = .ok u w := by
 go_simp
theorem ev_load57 (w : World) {ad : Addr} {u : Value} (hc : w.cell? ad = some u) : (Instr.loadAt 57 (.pointer (some ad))).events Try.prog w #[] = #[⟨.cell ad, false, false⟩] := by
 simp [go_sem, hc]
theorem run_load101 (w : World) {ad : Addr} {u : Value} (hc : w.cell? ad = some u) : (Instr.loadAt 101 (.pointer (some ad))).run Try.prog w = .ok u w := by
 go_simp
theorem ev_load101 (w : World) {ad : Addr} {u : Value} (hc : w.cell? ad = some u) : (Instr.loadAt 101 (.pointer (some ad))).events Try.prog w #[] = #[⟨.cell ad, false, false⟩] := by
 simp [go_sem, hc]
def str6 (x0 x1 x2 x3 x4 x5 : Int) : ByteArray := [x0, x1, x2, x3, x4, x5].foldl (fun r n => r.push (UInt8.ofNat n.toNat)) ByteArray.empty
theorem run_str6 (w : World) (B : Nat) (x0 x1 x2 x3 x4 x5 : Int) (h : w.heap[B]? = some (.cells #[.int .u8 x0, .int .u8 x1, .int .u8 x2, .int .u8 x3, .int .u8 x4, .int .u8 x5] 91)) : (convert 35 9 (.slice (some ⟨B, 0, none⟩) 6 6)).run Try.prog w = .ok (.string (str6 x0 x1 x2 x3 x4 x5)) w := by
 have c0 : w.cell? ⟨B, 0, none⟩ = some (.int .u8 x0) := by simp [World.cell?, h]
 have c1 : w.cell? ⟨B, 1, none⟩ = some (.int .u8 x1) := by simp [World.cell?, h]
 have c2 : w.cell? ⟨B, 2, none⟩ = some (.int .u8 x2) := by simp [World.cell?, h]
 have c3 : w.cell? ⟨B, 3, none⟩ = some (.int .u8 x3) := by simp [World.cell?, h]
 have c4 : w.cell? ⟨B, 4, none⟩ = some (.int .u8 x4) := by simp [World.cell?, h]
 have c5 : w.cell? ⟨B, 5, none⟩ = some (.int .u8 x5) := by simp [World.cell?, h]
 rw [run_convert_bytes_string w 35 9 5 _ 6 6 Try.underlying35 Try.underlying5 Try.underlying9]
 exact run_bytesToString w ⟨B, 0, none⟩ 6 6 [x0, x1, x2, x3, x4, x5] (by simp [loadCells, loadCellsFrom, Addr.add, go_sem, c0, c1, c2, c3, c4, c5])
def read6 (B : Nat) : Array Event := #[⟨.cell ⟨B, 0, none⟩, false, false⟩, ⟨.cell ⟨B, 1, none⟩, false, false⟩, ⟨.cell ⟨B, 2, none⟩, false, false⟩, ⟨.cell ⟨B, 3, none⟩, false, false⟩, ⟨.cell ⟨B, 4, none⟩, false, false⟩, ⟨.cell ⟨B, 5, none⟩, false, false⟩]
theorem ev_str6 (w : World) (B : Nat) (x0 x1 x2 x3 x4 x5 : Int) (h : w.heap[B]? = some (.cells #[.int .u8 x0, .int .u8 x1, .int .u8 x2, .int .u8 x3, .int .u8 x4, .int .u8 x5] 91)) : (convert 35 9 (.slice (some ⟨B, 0, none⟩) 6 6)).events Try.prog w #[] = read6 B := by
 have c0 : w.cell? ⟨B, 0, none⟩ = some (.int .u8 x0) := by simp [World.cell?, h]
 have c1 : w.cell? ⟨B, 1, none⟩ = some (.int .u8 x1) := by simp [World.cell?, h]
 have c2 : w.cell? ⟨B, 2, none⟩ = some (.int .u8 x2) := by simp [World.cell?, h]
 have c3 : w.cell? ⟨B, 3, none⟩ = some (.int .u8 x3) := by simp [World.cell?, h]
 have c4 : w.cell? ⟨B, 4, none⟩ = some (.int .u8 x4) := by simp [World.cell?, h]
 have c5 : w.cell? ⟨B, 5, none⟩ = some (.int .u8 x5) := by simp [World.cell?, h]
 simp [go_sem, convert, Conv.bytesToString, loadCells, loadCellsFrom, Addr.add, c0, c1, c2, c3, c4, c5, read6]
theorem run_index91 (w : World) (B : Nat) (i : Nat) (hi : i < 6) : (Instr.indexAt 91 (.pointer (some ⟨B, 0, none⟩)) (.int .i64 i)).run Try.prog w = .ok (.pointer (some ⟨B, i, none⟩)) w := by
 have : ¬ ((6 : Int) ≤ (i : Int)) := by omega
 go_simp
 try (intro h; exact absurd h this)
theorem ev_index91 (w : World) (B : Nat) (i : Nat) (hi : i < 6) : (Instr.indexAt 91 (.pointer (some ⟨B, 0, none⟩)) (.int .i64 i)).events Try.prog w #[] = #[] := by
 have : ¬ ((6 : Int) ≤ (i : Int)) := by omega
 simp [Instr.indexAt, Instr.sureAddr, go_sem]
 intro h
 omega
theorem ev_slice91 (w : World) (B : Nat) : (Instr.sliceAt 91 (.pointer (some ⟨B, 0, none⟩)) none none none).events Try.prog w #[] = #[] := by
 simp [Instr.sliceAt, Instr.sureAddr, Instr.sliceBounds, go_sem]
theorem run_slice91 (w : World) (B : Nat) : (Instr.sliceAt 91 (.pointer (some ⟨B, 0, none⟩)) none none none).run Try.prog w = .ok (.slice (some ⟨B, 0, none⟩) 6 6) w := by
 go_simp
theorem run_indexS (w : World) (s : ByteArray) (i : Nat) (h : i < s.size) : (Instr.index 9 (.string s) (.int .i64 i)).run Try.prog w = .ok (.int .u8 (s[i]).toNat) w := by simp [go_sem, h]
theorem ev_indexS (w : World) (s : ByteArray) (i : Nat) (h : i < s.size) : (Instr.index 9 (.string s) (.int .i64 i)).events Try.prog w #[] = #[] := by simp [Instr.index, go_sem, h]
theorem ev_lenS (w : World) (s : ByteArray) : (Builtin.len_ #[9] 3 #[Value.string s]).events Try.prog w #[] = #[] := by simp [Builtin.len_, go_sem]
theorem run_lenS (w : World) (s : ByteArray) : (Builtin.len_ #[9] 3 #[Value.string s]).run Try.prog w = .ok (.int .i64 s.size) w := by simp [go_sem]
section
variable {p : Pl} {n i : Nat} {W : World} {todo : List Int} {b : Frame} {cs : List Frame} {N : Nat} {ds : List Deferred} {ρ : Rho} {ops : Array Oper} {j : Nat} {rest : List Nat} {o : Oper} {kk : List Item} {d B : Nat} {v : List Value}
structure FB (p : Pl) (n i : Nat) (W : World) (B : Nat) (v : List Value) (w : World) : Prop extends FW p n i W w where
 blk : w.heap[B]? = some (.cells v.toArray 91)
 ne : B ≠ p.Wg ∧ B ≠ p.Mu ∧ B ≠ p.Al
 nr : ∀ b, p.Rb i b → b ≠ B
theorem FB.rule : Rule (EnvH p n i (some B) false) (DoH p n i (some B) false) (FB p n i W B v) := ⟨fun _ _ a e => ⟨a.toFW.env e, (e.own B rfl).trans a.blk, a.ne, a.nr⟩, fun w _ => DoH.refl w⟩
abbrev GB (p : Pl) (n i : Nat) (W : World) (todo : List Int) (d B : Nat) (v : List Value) (b : Frame) (cs : List Frame) (N : Nat) (ds : List Deferred) (ρ : Rho) (kk : List Item) : Prop :=
 GE Try.prog false (EnvH p n i (some B) false) (DoH p n i (some B) false) (AtH p n i d todo .ld []) (FB p n i W B v) b cs N ds ρ kk
theorem LiveH.alloc {w : World} (l : LiveH p n w) (ob : Obj) : LiveH p n (w.alloc ob) := by
 obtain ⟨⟨a, c, e⟩, ⟨wd, m, e1⟩, ⟨x, hx, e2⟩⟩ := l
 have key : ∀ (b : Nat) (z : Obj), w.heap[b]? = some z → (w.alloc ob).heap[b]? = some z := fun b z h => (Below.heap_alloc _ _ _ (Array.getElem?_eq_some_iff.1 h).1).trans h
 exact ⟨⟨a, c, key _ _ e⟩, ⟨wd, m, key _ _ e1⟩, ⟨x, hx, key _ _ e2⟩⟩
theorem FW.lt {w : World} (h : FW p n i W w) : p.Wg < w.heap.size ∧ p.Mu < w.heap.size ∧ p.Al < w.heap.size := by
 obtain ⟨⟨a, c, e⟩, ⟨wd, m, e1⟩, ⟨x, hx, e2⟩⟩ := h.live
 exact ⟨(Array.getElem?_eq_some_iff.1 e).1, (Array.getElem?_eq_some_iff.1 e1).1, (Array.getElem?_eq_some_iff.1 e2).1⟩
theorem FW.rblt (hb : ∀ b, p.Rb i b → b < W.heap.size) {w : World} (h : FW p n i W w) {b : Nat} (hr : p.Rb i b) : b < w.heap.size := by
 have := h.low b hr
 rw [Array.getElem?_eq_getElem (hb b hr)] at this
 exact (Array.getElem?_eq_some_iff.1 this).1
theorem st_al (hb : ∀ b, p.Rb i b → b < W.heap.size) (ho : ops[j]? = some o) (hop : o.op = .alloc 91) (hw : wantB ops ρ o = some true) (hk : b.kind ≠ .early) (hd : o.dst.all (· < N) = true)
  (h : ∀ d', d' < d → ∀ B, GB p n i W todo d' B zero6 b cs N ds (ρ.put o.dst (.pointer (some ⟨B, 0, none⟩))) (.inRegion ops rest :: kk)) : GA p n i W todo d .al b cs N ds ρ (.inRegion ops (j :: rest) :: kk) :=
 GA.stop fun T hT hl d' hd' w hF => StpH.at_al rfl rfl (by
  have e1 : execOp (Act.mk T ds).eval o = (do Pure.pure (Next.value (← Instr.alloc 91 true (.tuple #[])))) := by simp only [execOp, hop]
  have hlt := hF.lt
  refine ⟨_, .cells zero6.toArray 91, _, stepG_value ho (hl.want hw) hk (by rw [e1]; simp [run_alloc91, Result.andThen]), ?_, (GE.put hd hT hl (h d' hd' w.heap.size)).runs ⟨⟨hF.live.alloc _, fun b hr => ?_⟩, heap_alloc_new _ _, ⟨by omega, by omega, by omega⟩, fun b hr => ?_⟩⟩
  ·intro e he
   have := mem_listed he
   rw [e1] at this
   simp [run_alloc91, ev_alloc91, Result.evThen] at this
  ·exact (Below.heap_alloc _ _ _ (hF.rblt hb hr)).trans (hF.low b hr)
  ·have := hF.rblt hb hr; omega)
theorem okE_own {e : Event} {ad : Addr} {x : Bool} (he : e = ⟨.cell ad, x, false⟩) (ha : ad.block = B) {S : Nat} (hs : B < S) {h : Bool} : OkE p i (some B) h S e := by
 subst he
 refine ⟨fun y hy => ?_, ⟨by simp [MemAct.ofEvent], by simp [MemAct.ofEvent]⟩, by show ad.block < S; rw [ha]; exact hs, by simp, by simp⟩
 simp only [MemAct.ofEvent, MemAct.touch?, Option.some.injEq] at hy
 subst hy
 exact .inr (.inr ⟨⟨ad, by rw [ha], rfl⟩, rfl⟩)
theorem FB.cell {w : World} (h : FB p n i W B v w) {off : Nat} {u : Value} (hu : v[off]? = some u) : w.cell? ⟨B, off, none⟩ = some u := by
 have := h.blk
 simp [World.cell?, this, hu]
theorem FB.thaw {w : World} (h : FB p n i W B v w) (off : Nat) : w.frozen? ⟨B, off, none⟩ = false := by
 have := h.blk
 simp [World.frozen?, this]
theorem FB.lt {w : World} (h : FB p n i W B v w) : B < w.heap.size := (Array.getElem?_eq_some_iff.1 h.blk).1
theorem FB.set {w : World} (h : FB p n i W B v w) {off : Nat} {u : Value} : FB p n i W B (v.set off u) (w.setCell ⟨B, off, none⟩ u) := by
 have A := aside_setCell w ⟨B, off, none⟩ u
 obtain ⟨⟨a, c, e⟩, ⟨wd, m, e1⟩, ⟨x, hx, e2⟩⟩ := h.live
 have ne := h.ne
 refine ⟨⟨⟨⟨a, c, (A.block _ (Ne.symm ne.1)).trans e⟩, ⟨wd, m, (A.block _ (Ne.symm ne.2.1)).trans e1⟩, ⟨x, hx, (A.block _ (Ne.symm ne.2.2)).trans e2⟩⟩, fun b hr => (A.block _ (h.nr b hr)).trans (h.low b hr)⟩, ?_, ne, h.nr⟩
 have := h.blk
 obtain ⟨hlt, he⟩ := Array.getElem?_eq_some_iff.1 this
 unfold World.setCell
 simp [hlt, Array.getElem_modify, he]
theorem gb_store {x y : Operand} {t : TypeId} (ht : t = 5 ∨ t = 3) {off : Nat} {k : IntKind} {z : Int} {u : Value} (hu : v[off]? = some u) (ho : ops[j]? = some o) (hop : o.op = .store t x y) (hw : wantB ops ρ o = some true) (hk : b.kind ≠ .early) (hd : o.dst = none) (hx : ev ρ x = some (.pointer (some ⟨B, off, none⟩))) (hy : ev ρ y = some (.int k z))
  (h : GB p n i W todo d B (v.set off (.int k z)) b cs N ds ρ (.inRegion ops rest :: kk)) : GB p n i W todo d B v b cs N ds ρ (.inRegion ops (j :: rest) :: kk) :=
 GE.turn (d := none) (v := undef) FB.rule rfl (fun T hT hl w hF => by
  have e1 : execOp (Act.mk T ds).eval o = (do Instr.storeAt t (.pointer (some ⟨B, off, none⟩)) (.int k z); Pure.pure Next.skip) := by simp only [execOp, hop, hl.ev hx, hl.ev hy]
  have hr := run_storeI w ht (k := k) (z := z) (hF.cell hu) (hF.thaw off)
  have he := ev_storeI w ht (k := k) (z := z) (hF.cell hu) (hF.thaw off)
  have hs := stepG_none (P := Try.prog) (main := false) (cs := cs) (k := kk) (rest := rest) (a := ⟨T, ds⟩) (w := w) (w' := w.setCell ⟨B, off, none⟩ (.int k z)) ho (hl.want hw) hk (by rw [e1]; simp [hr, Result.andThen])
  rw [hd] at hs
  have A := aside_setCell w ⟨B, off, none⟩ (.int k z)
  refine ⟨_, _, hs, ⟨A.tape, A.output, A.os, A.size, fun b hb _ => A.block b (fun e => hb (by rw [e])), fun _ => hF.set.live, fun e he' => ?_⟩, hF.set⟩
  have hm := mem_listed he'
  rw [e1] at hm
  simp [hr, he, Result.evThen] at hm
  rw [A.size]
  exact okE_own hm rfl hF.lt) h
theorem gb_str {x : Operand} {x0 x1 x2 x3 x4 x5 : Int} (ho : ops[j]? = some o) (hop : o.op = .convert 35 9 x) (hw : wantB ops ρ o = some true) (hk : b.kind ≠ .early) (hd : o.dst.all (· < N) = true) (hx : ev ρ x = some (.slice (some ⟨B, 0, none⟩) 6 6))
  (h : GB p n i W todo d B [.int .u8 x0, .int .u8 x1, .int .u8 x2, .int .u8 x3, .int .u8 x4, .int .u8 x5] b cs N ds (ρ.put o.dst (.string (str6 x0 x1 x2 x3 x4 x5))) (.inRegion ops rest :: kk)) :
  GB p n i W todo d B [.int .u8 x0, .int .u8 x1, .int .u8 x2, .int .u8 x3, .int .u8 x4, .int .u8 x5] b cs N ds ρ (.inRegion ops (j :: rest) :: kk) :=
 GE.turn FB.rule hd (fun T hT hl w hF => by
  have e1 : execOp (Act.mk T ds).eval o = (do Pure.pure (Next.value (← convert 35 9 (.slice (some ⟨B, 0, none⟩) 6 6)))) := by simp only [execOp, hop, hl.ev hx]
  have hr := run_str6 w B x0 x1 x2 x3 x4 x5 hF.blk
  have he := ev_str6 w B x0 x1 x2 x3 x4 x5 hF.blk
  refine ⟨w, _, stepG_value ho (hl.want hw) hk (by rw [e1]; simp [hr, Result.andThen]), ⟨rfl, rfl, rfl, rfl, fun _ _ _ => rfl, id, fun e he' => ?_⟩, hF⟩
  have hm := mem_listed he'
  rw [e1] at hm
  simp [hr, he, Result.evThen, read6] at hm
  rcases hm with hm | hm | hm | hm | hm | hm <;> exact okE_own hm rfl hF.lt) h
theorem gb_forget {g : Goroutine} (h : GsA p n i W todo d .ld g) : Gs Try.prog false (EnvH p n i (some B) false) (DoH p n i (some B) false) (AtH p n i d todo .ld []) (FB p n i W B v) g :=
 Hk.Gs.sub (fun _ _ e => e.weak) (fun _ _ _ e => ⟨e.tape, e.output, e.os, e.size, fun b _ h => e.block b (by simp) h, e.live, fun x hx => let ⟨h1, h2⟩ := e.ev x hx; ⟨fun y hy => (h1 y hy).elim .inl fun h => h.elim (fun h => .inr (.inl h)) fun ⟨⟨ad, h, _⟩, _⟩ => (by cases h), h2⟩⟩) (fun _ h => h.toFW) h
end
end Go.Proofs.Ytnikfjfcbpeieaa.Hk
end
section
namespace Go.Proofs.Ytnikfjfcbpeieaa.Hk
open Go Go.Conc Go.RowKit Go.Proofs.Ytnikfjfcbpeieaa.Lk
open Go.ConcR.Gen
set_option linter.unusedVariables false
set_option linter.unusedSimpArgs false
theorem nm33 : (Try.f33.name == "runtime.NumGoroutine") = false := by kernel_rfl
noncomputable def c33 : Code := Try.f33.body.getD .skip
theorem body33 : Try.f33.body = some c33 := rfl
theorem nm35 : (Try.f35.name == "runtime.NumGoroutine") = false := by kernel_rfl
noncomputable def c35 : Code := Try.f35.body.getD .skip
theorem body35 : Try.f35.body = some c35 := rfl
theorem nm43 : (Try.f43.name == "runtime.NumGoroutine") = false := by kernel_rfl
noncomputable def c43 : Code := Try.f43.body.getD .skip
theorem body43 : Try.f43.body = some c43 := rfl
theorem nm44 : (Try.f44.name == "runtime.NumGoroutine") = false := by kernel_rfl
noncomputable def c44 : Code := Try.f44.body.getD .skip
theorem body44 : Try.f44.body = some c44 := rfl
theorem nm70 : (Try.f70.name == "runtime.NumGoroutine") = false := by kernel_rfl
noncomputable def c70 : Code := Try.f70.body.getD .skip
theorem body70 : Try.f70.body = some c70 := rfl
section
variable {P : Program} {main : Bool} {R : World → World → Prop} {D : World → World → Array Event → Prop} {Stop : Goroutine → World → Prop} {F : World → Prop} {cs : List Frame}
 {b₀ : Frame} {a₀ : Act} {ops₀ : Array Oper} {i₀ : Nat} {rest₀ : List Nat} {k₀ : List Item}
theorem geT {a c : Int} (h : a ≥ c) : binOp .geq 3 (.int .i64 a) (.int .i64 c) = pure (.bool true) := by
 have e : binOp .geq 3 (.int .i64 a) (.int .i64 c) = pure (.bool (decide (a ≥ c))) := rfl
 rw [e, decide_eq_true h]
theorem leT {a c : Int} (h : a ≤ c) : binOp .leq 3 (.int .i64 a) (.int .i64 c) = pure (.bool true) := by
 have e : binOp .leq 3 (.int .i64 a) (.int .i64 c) = pure (.bool (decide (a ≤ c))) := rfl
 rw [e, decide_eq_true h]
set_option maxRecDepth 100000 in
set_option maxHeartbeats 8000000 in
theorem right_walk (U : Rule R D F) {a : Int} (h0 : 0 ≤ a) (h1 : a ≤ 281474976710655) (hT : Gs Try.prog main R D Stop F (G (b₀.at (a₀.put ((ops₀[i₀]?).bind (·.dst)) (.bool true)) (.inRegion ops₀ rest₀ :: k₀)) cs)) :
  Gs Try.prog main R D Stop F (G ((base 35).at ⟨#[.int .i64 a] ++ Array.replicate 8 undef, []⟩ [.code c35]) (b₀.at a₀ (.inRegion ops₀ (i₀ :: rest₀) :: k₀) :: cs)) := by
 refine (?_ : GE Try.prog main R D Stop F (base 35) _ 9 [] [(0, .int .i64 a)] [.code c35]) _ (by simp) (looks1 _ _)
 simp only [c35, Try.f35, Option.getD_some]
 repeat (first
  | refine GE.bin (v := .bool true) U rfl rfl rfl (by k_ne) rfl rfl rfl (geT h0) ?_
  | refine GE.bin (v := .bool true) U rfl rfl rfl (by k_ne) rfl rfl rfl (leT h1) ?_
  | refine GE.seq U ?_
  | refine GE.regionEnd U ?_
  | refine GE.region _ U rfl ?_
  | refine GE.mv U rfl rfl rfl (by k_ne) rfl rfl ?_
  | refine GE.as U rfl rfl rfl (by k_ne) rfl rfl ?_
  | refine GE.pick U rfl rfl rfl (by k_ne) rfl rfl rfl ?_)
 exact GE.ret1 U rfl Try.func35 rfl rfl hT
set_option maxRecDepth 100000 in
set_option maxHeartbeats 8000000 in
theorem isNumber_walk (U : Rule R D F) {n : Int} (hn : n = 1 ∨ n = 2 ∨ n = 4 ∨ n = 8 ∨ n = 16) (hT : Gs Try.prog main R D Stop F (G (b₀.at (a₀.put ((ops₀[i₀]?).bind (·.dst)) (.bool true)) (.inRegion ops₀ rest₀ :: k₀)) cs)) :
  Gs Try.prog main R D Stop F (G ((base 70).at ⟨#[.int .i64 n] ++ Array.replicate 15 undef, []⟩ [.code c70]) (b₀.at a₀ (.inRegion ops₀ (i₀ :: rest₀) :: k₀) :: cs)) := by
 have h1 : n ≥ 1 := by omega
 have h16 : n ≤ 16 := by omega
 refine (?_ : GE Try.prog main R D Stop F (base 70) _ 16 [] [(0, .int .i64 n)] [.code c70]) _ (by simp) (looks1 _ _)
 simp only [c70, Try.f70, Option.getD_some]
 repeat (first
  | refine GE.bin (v := .bool true) U rfl rfl rfl (by k_ne) rfl rfl rfl (geT h1) ?_
  | refine GE.bin (v := .bool true) U rfl rfl rfl (by k_ne) rfl rfl rfl (leT h16) ?_
  | refine GE.bin (op := .eql) (v := .bool true) U rfl rfl rfl (by k_ne) rfl rfl rfl (by rcases hn with rfl | rfl | rfl | rfl | rfl <;> rfl) ?_
  | refine GE.seq U ?_
  | refine GE.regionEnd U ?_
  | refine GE.region _ U rfl ?_
  | refine GE.mv U rfl rfl rfl (by k_ne) rfl rfl ?_
  | refine GE.as U rfl rfl rfl (by k_ne) rfl rfl ?_
  | refine GE.pick U rfl rfl rfl (by k_ne) rfl rfl rfl ?_
  | refine GE.bin U rfl rfl rfl (by k_ne) rfl rfl rfl rfl ?_)
 exact GE.ret1 U rfl Try.func70 rfl rfl hT
end
def bt (a : Int) (k : Nat) : Int := IntKind.u8.wrap (a.fdiv (2 ^ (8 * (5 - k))))
def bs (a : Int) : ByteArray := str6 (bt a 0) (bt a 1) (bt a 2) (bt a 3) (bt a 4) (bt a 5)
section
variable {p : Pl} {n i : Nat} {W : World} {todo : List Int} {cs : List Frame} {b₀ : Frame} {a₀ : Act} {ops₀ : Array Oper} {i₀ : Nat} {rest₀ : List Nat} {k₀ : List Item}
abbrev GsB (p : Pl) (n i : Nat) (W : World) (todo : List Int) (d B : Nat) (v : List Value) (g : Goroutine) : Prop := Gs Try.prog false (EnvH p n i (some B) false) (DoH p n i (some B) false) (AtH p n i d todo .ld []) (FB p n i W B v) g
theorem conv35 (x : Int) (w : World) : (convert 3 5 (.int .i64 x)).run Try.prog w = .ok (.int .u8 (IntKind.u8.wrap x)) w := by go_simp
theorem conv35e (x : Int) (w : World) : (convert 3 5 (.int .i64 x)).events Try.prog w #[] = #[] := by simp [go_sem]
theorem bt_range (a : Int) (k : Nat) : 0 ≤ bt a k ∧ bt a k < 256 := by
 have : bt a k = a.fdiv (2 ^ (8 * (5 - k))) % 256 := by simp [bt, IntKind.wrap, IntKind.signed, IntKind.bits]
 rw [this]
 exact ⟨Int.emod_nonneg _ (by decide), Int.emod_lt_of_pos _ (by decide)⟩
theorem u8_of {x : Int} (h : 0 ≤ x ∧ x < 256) : (((UInt8.ofNat x.toNat).toNat : Nat) : Int) = x := by
 simp [UInt8.ofNat, UInt8.toNat]
 omega
theorem bs_size (a : Int) : (bs a).size = 6 := rfl
theorem run_indexB (a : Int) (k : Nat) (hk : k < 6) (w : World) : (Instr.index 9 (.string (bs a)) (.int .i64 k)).run Try.prog w = .ok (.int .u8 (bt a k)) w := by
 rw [run_indexS w (bs a) k (by rw [bs_size]; exact hk)]
 rcases (show k = 0 ∨ k = 1 ∨ k = 2 ∨ k = 3 ∨ k = 4 ∨ k = 5 by omega) with rfl | rfl | rfl | rfl | rfl | rfl
 ·rw [← u8_of (bt_range a 0)]; rfl
 ·rw [← u8_of (bt_range a 1)]; rfl
 ·rw [← u8_of (bt_range a 2)]; rfl
 ·rw [← u8_of (bt_range a 3)]; rfl
 ·rw [← u8_of (bt_range a 4)]; rfl
 ·rw [← u8_of (bt_range a 5)]; rfl
theorem ev_indexB (a : Int) (k : Nat) (hk : k < 6) (w : World) : (Instr.index 9 (.string (bs a)) (.int .i64 k)).events Try.prog w #[] = #[] := ev_indexS w (bs a) k (by rw [bs_size]; exact hk)
def six (a : Int) : List Value := [.int .u8 (bt a 0), .int .u8 (bt a 1), .int .u8 (bt a 2), .int .u8 (bt a 3), .int .u8 (bt a 4), .int .u8 (bt a 5)]
set_option maxRecDepth 100000 in
set_option maxHeartbeats 8000000 in
theorem bytes_walk (hb : ∀ b, p.Rb i b → b < W.heap.size) {a : Int} (h0 : 0 ≤ a) (h1 : a ≤ 281474976710655) {d : Nat}
  (hT : ∀ d', d' < d → ∀ B, GsB p n i W todo d' B (six a) (G (b₀.at (a₀.put ((ops₀[i₀]?).bind (·.dst)) (.tuple #[.string (bs a), .int .i64 0])) (.inRegion ops₀ rest₀ :: k₀)) cs)) :
  GsA p n i W todo d .al (G ((base 33).at ⟨#[.int .i64 a] ++ Array.replicate 22 undef, []⟩ [.code c33]) (b₀.at a₀ (.inRegion ops₀ (i₀ :: rest₀) :: k₀) :: cs)) := by
 have U : Rule (EnvH p n i none false) (DoH p n i none false) (FW p n i W) := FW.rule
 refine (?_ : GA p n i W todo d .al (base 33) _ 23 [] [(0, .int .i64 a)] [.code c33]) _ (by simp) (looks1 _ _)
 simp only [c33, Try.f33, Option.getD_some]
 repeat (first
  | refine GE.seq U ?_
  | refine GE.regionEnd U ?_
  | refine GE.region _ U rfl ?_
  | refine GE.mv U rfl rfl rfl (by k_ne) rfl rfl ?_
  | refine GE.as U rfl rfl rfl (by k_ne) rfl rfl ?_)
 refine GE.call #[.int .i64 a] U rfl rfl rfl (by k_ne) Try.func35 nm35 body35 (fun e he => by simp [he (.tmp 6) _ rfl]) fun T1 hT1 hl1 => ?_
 refine right_walk U h0 h1 (GE.put (N := 23) rfl hT1 hl1 ?_)
 repeat (first
  | refine GE.seq U ?_
  | refine GE.skip U ?_
  | refine GE.regionEnd U ?_
  | refine GE.region _ U rfl ?_
  | (refine GE.cond false U rfl ?_; simp only [if_true, if_false, Bool.false_eq_true, ↓reduceIte])
  | refine GE.not U rfl rfl rfl (by k_ne) rfl rfl ?_)
 refine st_al hb rfl rfl rfl (by k_ne) rfl fun d1 hd1 B => ?_
 repeat (first
  | refine GE.loop FB.rule ?_
  | refine GE.seq FB.rule ?_
  | refine GE.block FB.rule ?_
  | refine GE.skip FB.rule ?_
  | refine GE.regionEnd FB.rule ?_
  | refine GE.region _ FB.rule rfl ?_
  | (refine GE.cond true FB.rule rfl ?_; simp only [if_true, if_false, Bool.false_eq_true, ↓reduceIte])
  | refine GE.mv FB.rule rfl rfl rfl (by k_ne) rfl rfl ?_
  | refine GE.as FB.rule rfl rfl rfl (by k_ne) rfl rfl ?_
  | refine GE.bin FB.rule rfl rfl rfl (by k_ne) rfl rfl rfl rfl ?_)
 refine GE.cv (v := .int .u8 (bt a 0)) FB.rule rfl rfl rfl (by k_ne) rfl rfl (fun w hw => conv35 _ w) (fun w hw => conv35e _ w) ?_
 repeat (first
  | refine GE.ia (v := .pointer (some ⟨B, 0, none⟩)) FB.rule rfl rfl rfl (by k_ne) rfl rfl rfl (fun w hw => run_index91 w B 0 (by decide)) (fun w hw => ev_index91 w B 0 (by decide)) ?_
  | refine gb_store (off := 0) (.inl rfl) rfl rfl rfl rfl (by k_ne) rfl rfl rfl ?_
  | refine GE.inLoop FB.rule ?_
  | refine GE.seq FB.rule ?_
  | refine GE.block FB.rule ?_
  | refine GE.skip FB.rule ?_
  | refine GE.inBlock FB.rule ?_
  | refine GE.regionEnd FB.rule ?_
  | refine GE.region _ FB.rule rfl ?_
  | (refine GE.cond true FB.rule rfl ?_; simp only [if_true, if_false, Bool.false_eq_true, ↓reduceIte])
  | refine GE.mv FB.rule rfl rfl rfl (by k_ne) rfl rfl ?_
  | refine GE.as FB.rule rfl rfl rfl (by k_ne) rfl rfl ?_
  | refine GE.bin FB.rule rfl rfl rfl (by k_ne) rfl rfl rfl rfl ?_)
 refine GE.cv (v := .int .u8 (bt a 1)) FB.rule rfl rfl rfl (by k_ne) rfl rfl (fun w hw => conv35 _ w) (fun w hw => conv35e _ w) ?_
 repeat (first
  | refine GE.ia (v := .pointer (some ⟨B, 1, none⟩)) FB.rule rfl rfl rfl (by k_ne) rfl rfl rfl (fun w hw => run_index91 w B 1 (by decide)) (fun w hw => ev_index91 w B 1 (by decide)) ?_
  | refine gb_store (off := 1) (.inl rfl) rfl rfl rfl rfl (by k_ne) rfl rfl rfl ?_
  | refine GE.inLoop FB.rule ?_
  | refine GE.seq FB.rule ?_
  | refine GE.block FB.rule ?_
  | refine GE.skip FB.rule ?_
  | refine GE.inBlock FB.rule ?_
  | refine GE.regionEnd FB.rule ?_
  | refine GE.region _ FB.rule rfl ?_
  | (refine GE.cond true FB.rule rfl ?_; simp only [if_true, if_false, Bool.false_eq_true, ↓reduceIte])
  | refine GE.mv FB.rule rfl rfl rfl (by k_ne) rfl rfl ?_
  | refine GE.as FB.rule rfl rfl rfl (by k_ne) rfl rfl ?_
  | refine GE.bin FB.rule rfl rfl rfl (by k_ne) rfl rfl rfl rfl ?_)
 refine GE.cv (v := .int .u8 (bt a 2)) FB.rule rfl rfl rfl (by k_ne) rfl rfl (fun w hw => conv35 _ w) (fun w hw => conv35e _ w) ?_
 repeat (first
  | refine GE.ia (v := .pointer (some ⟨B, 2, none⟩)) FB.rule rfl rfl rfl (by k_ne) rfl rfl rfl (fun w hw => run_index91 w B 2 (by decide)) (fun w hw => ev_index91 w B 2 (by decide)) ?_
  | refine gb_store (off := 2) (.inl rfl) rfl rfl rfl rfl (by k_ne) rfl rfl rfl ?_
  | refine GE.inLoop FB.rule ?_
  | refine GE.seq FB.rule ?_
  | refine GE.block FB.rule ?_
  | refine GE.skip FB.rule ?_
  | refine GE.inBlock FB.rule ?_
  | refine GE.regionEnd FB.rule ?_
  | refine GE.region _ FB.rule rfl ?_
  | (refine GE.cond true FB.rule rfl ?_; simp only [if_true, if_false, Bool.false_eq_true, ↓reduceIte])
  | refine GE.mv FB.rule rfl rfl rfl (by k_ne) rfl rfl ?_
  | refine GE.as FB.rule rfl rfl rfl (by k_ne) rfl rfl ?_
  | refine GE.bin FB.rule rfl rfl rfl (by k_ne) rfl rfl rfl rfl ?_)
 refine GE.cv (v := .int .u8 (bt a 3)) FB.rule rfl rfl rfl (by k_ne) rfl rfl (fun w hw => conv35 _ w) (fun w hw => conv35e _ w) ?_
 repeat (first
  | refine GE.ia (v := .pointer (some ⟨B, 3, none⟩)) FB.rule rfl rfl rfl (by k_ne) rfl rfl rfl (fun w hw => run_index91 w B 3 (by decide)) (fun w hw => ev_index91 w B 3 (by decide)) ?_
  | refine gb_store (off := 3) (.inl rfl) rfl rfl rfl rfl (by k_ne) rfl rfl rfl ?_
  | refine GE.inLoop FB.rule ?_
  | refine GE.seq FB.rule ?_
  | refine GE.block FB.rule ?_
  | refine GE.skip FB.rule ?_
  | refine GE.inBlock FB.rule ?_
  | refine GE.regionEnd FB.rule ?_
  | refine GE.region _ FB.rule rfl ?_
  | (refine GE.cond true FB.rule rfl ?_; simp only [if_true, if_false, Bool.false_eq_true, ↓reduceIte])
  | refine GE.mv FB.rule rfl rfl rfl (by k_ne) rfl rfl ?_
  | refine GE.as FB.rule rfl rfl rfl (by k_ne) rfl rfl ?_
  | refine GE.bin FB.rule rfl rfl rfl (by k_ne) rfl rfl rfl rfl ?_)
 refine GE.cv (v := .int .u8 (bt a 4)) FB.rule rfl rfl rfl (by k_ne) rfl rfl (fun w hw => conv35 _ w) (fun w hw => conv35e _ w) ?_
 repeat (first
  | refine GE.ia (v := .pointer (some ⟨B, 4, none⟩)) FB.rule rfl rfl rfl (by k_ne) rfl rfl rfl (fun w hw => run_index91 w B 4 (by decide)) (fun w hw => ev_index91 w B 4 (by decide)) ?_
  | refine gb_store (off := 4) (.inl rfl) rfl rfl rfl rfl (by k_ne) rfl rfl rfl ?_
  | refine GE.inLoop FB.rule ?_
  | refine GE.seq FB.rule ?_
  | refine GE.block FB.rule ?_
  | refine GE.skip FB.rule ?_
  | refine GE.inBlock FB.rule ?_
  | refine GE.regionEnd FB.rule ?_
  | refine GE.region _ FB.rule rfl ?_
  | (refine GE.cond true FB.rule rfl ?_; simp only [if_true, if_false, Bool.false_eq_true, ↓reduceIte])
  | refine GE.mv FB.rule rfl rfl rfl (by k_ne) rfl rfl ?_
  | refine GE.as FB.rule rfl rfl rfl (by k_ne) rfl rfl ?_
  | refine GE.bin FB.rule rfl rfl rfl (by k_ne) rfl rfl rfl rfl ?_)
 refine GE.cv (v := .int .u8 (bt a 5)) FB.rule rfl rfl rfl (by k_ne) rfl rfl (fun w hw => conv35 _ w) (fun w hw => conv35e _ w) ?_
 repeat (first
  | refine GE.ia (v := .pointer (some ⟨B, 5, none⟩)) FB.rule rfl rfl rfl (by k_ne) rfl rfl rfl (fun w hw => run_index91 w B 5 (by decide)) (fun w hw => ev_index91 w B 5 (by decide)) ?_
  | refine gb_store (off := 5) (.inl rfl) rfl rfl rfl rfl (by k_ne) rfl rfl rfl ?_
  | refine GE.sl none none none FB.rule rfl rfl rfl (by k_ne) rfl rfl (fun e he => ⟨rfl, rfl, rfl⟩) (fun w hw => run_slice91 w B) (fun w hw => ev_slice91 w B) ?_
  | refine gb_str (x0 := bt a 0) (x1 := bt a 1) (x2 := bt a 2) (x3 := bt a 3) (x4 := bt a 4) (x5 := bt a 5) rfl rfl rfl (by k_ne) rfl rfl ?_
  | refine GE.inLoop FB.rule ?_
  | refine GE.seq FB.rule ?_
  | refine GE.inBlock FB.rule ?_
  | refine GE.regionEnd FB.rule ?_
  | refine GE.region _ FB.rule rfl ?_
  | (refine GE.cond false FB.rule rfl ?_; simp only [if_true, if_false, Bool.false_eq_true, ↓reduceIte])
  | refine GE.exit FB.rule rfl ?_
  | refine GE.mv FB.rule rfl rfl rfl (by k_ne) rfl rfl ?_
  | refine GE.as FB.rule rfl rfl rfl (by k_ne) rfl rfl ?_
  | refine GE.bin FB.rule rfl rfl rfl (by k_ne) rfl rfl rfl rfl ?_)
 exact GE.ret2 FB.rule rfl Try.func33 rfl rfl rfl (hT d1 hd1 B)
theorem conv578 (x : Int) (w : World) : (convert 5 78 (.int .u8 x)).run Try.prog w = .ok (.int .u32 (IntKind.u32.wrap x)) w := by go_simp
theorem conv578e (x : Int) (w : World) : (convert 5 78 (.int .u8 x)).events Try.prog w #[] = #[] := by simp [go_sem]
theorem conv783 (x : Int) (w : World) : (convert 78 3 (.int .u32 x)).run Try.prog w = .ok (.int .i64 (IntKind.i64.wrap x)) w := by go_simp
theorem conv783e (x : Int) (w : World) : (convert 78 3 (.int .u32 x)).events Try.prog w #[] = #[] := by simp [go_sem]
def hsx (a : Int) : Nat → Int
 | 0 => 2166136261
 | k + 1 => IntKind.u32.wrap (bits .xor .u32 (hsx a k) (IntKind.u32.wrap (bt a k)) * 16777619)
def sumx (a : Int) : Int := IntKind.i64.wrap (hsx a 6)
def bkx (a n : Int) : Int := bits .and .i64 (sumx a) (IntKind.i64.wrap (n - 1))
set_option maxRecDepth 100000 in
set_option maxHeartbeats 8000000 in
theorem sum_walk (hb : ∀ b, p.Rb i b → b < W.heap.size) {a : Int} (h0 : 0 ≤ a) (h1 : a ≤ 281474976710655) {d : Nat}
  (hT : ∀ d', d' < d → ∀ B, GsB p n i W todo d' B (six a) (G (b₀.at (a₀.put ((ops₀[i₀]?).bind (·.dst)) (.tuple #[.int .i64 (sumx a), .int .i64 0])) (.inRegion ops₀ rest₀ :: k₀)) cs)) :
  GsA p n i W todo d .al (G ((base 43).at ⟨#[.int .i64 a] ++ Array.replicate 30 undef, []⟩ [.code c43]) (b₀.at a₀ (.inRegion ops₀ (i₀ :: rest₀) :: k₀) :: cs)) := by
 have U : Rule (EnvH p n i none false) (DoH p n i none false) (FW p n i W) := FW.rule
 refine (?_ : GA p n i W todo d .al (base 43) _ 31 [] [(0, .int .i64 a)] [.code c43]) _ (by simp) (looks1 _ _)
 simp only [c43, Try.f43, Option.getD_some]
 repeat (first
  | refine GE.seq U ?_
  | refine GE.regionEnd U ?_
  | refine GE.region _ U rfl ?_
  | refine GE.mv U rfl rfl rfl (by k_ne) rfl rfl ?_
  | refine GE.as U rfl rfl rfl (by k_ne) rfl rfl ?_)
 refine GE.call #[.int .i64 a] U rfl rfl rfl (by k_ne) Try.func33 nm33 body33 (fun e he => by simp [he (.tmp 9) _ rfl]) fun T1 hT1 hl1 => ?_
 refine bytes_walk hb h0 h1 fun d' hd' B => GE.put (N := 31) rfl hT1 hl1 ?_
 repeat (first
  | refine GE.len FB.rule rfl rfl rfl (by k_ne) rfl rfl (l := 6) (fun w hw => run_lenS w (bs a)) (fun w hw => ev_lenS w (bs a)) ?_
  | refine GE.seq FB.rule ?_
  | refine GE.block FB.rule ?_
  | refine GE.skip FB.rule ?_
  | refine GE.regionEnd FB.rule ?_
  | refine GE.region _ FB.rule rfl ?_
  | (refine GE.cond false FB.rule rfl ?_; simp only [if_true, if_false, Bool.false_eq_true, ↓reduceIte])
  | refine GE.mv FB.rule rfl rfl rfl (by k_ne) rfl rfl ?_
  | refine GE.as FB.rule rfl rfl rfl (by k_ne) rfl rfl ?_
  | refine GE.bin FB.rule rfl rfl rfl (by k_ne) rfl rfl rfl rfl ?_
  | refine GE.ex FB.rule rfl rfl rfl (by k_ne) rfl rfl (fun w hw => by go_simp; (try rfl)) (fun w hw => by simp [go_sem]) ?_)
 refine GE.loop FB.rule ?_
 refine GE.to [(0, .int .i64 a), (4, .string (bs a)), (6, .int .u32 (hsx a 0)), (17, .int .i64 6), (18, .int .i64 0)] ⟨rfl, rfl, rfl, rfl, rfl, trivial⟩ ?_
 repeat (first
  | refine GE.ix (v := .int .u8 (bt a 0)) FB.rule rfl rfl rfl (by k_ne) rfl rfl rfl (fun w hw => run_indexB a 0 (by decide) w) (fun w hw => ev_indexB a 0 (by decide) w) ?_
  | refine GE.cv FB.rule rfl rfl rfl (by k_ne) rfl rfl (fun w hw => conv578 (bt a 0) w) (fun w hw => conv578e (bt a 0) w) ?_
  | refine GE.seq FB.rule ?_
  | refine GE.block FB.rule ?_
  | refine GE.skip FB.rule ?_
  | refine GE.inBlock FB.rule ?_
  | refine GE.regionEnd FB.rule ?_
  | refine GE.region _ FB.rule rfl ?_
  | (refine GE.cond true FB.rule rfl ?_; simp only [if_true, if_false, Bool.false_eq_true, ↓reduceIte])
  | refine GE.mv FB.rule rfl rfl rfl (by k_ne) rfl rfl ?_
  | refine GE.as FB.rule rfl rfl rfl (by k_ne) rfl rfl ?_
  | refine GE.bin FB.rule rfl rfl rfl (by k_ne) rfl rfl rfl rfl ?_)
 refine GE.inLoop FB.rule ?_
 refine GE.to [(0, .int .i64 a), (4, .string (bs a)), (6, .int .u32 (hsx a 1)), (17, .int .i64 6), (18, .int .i64 1)] ⟨rfl, rfl, rfl, rfl, rfl, trivial⟩ ?_
 repeat (first
  | refine GE.ix (v := .int .u8 (bt a 1)) FB.rule rfl rfl rfl (by k_ne) rfl rfl rfl (fun w hw => run_indexB a 1 (by decide) w) (fun w hw => ev_indexB a 1 (by decide) w) ?_
  | refine GE.cv FB.rule rfl rfl rfl (by k_ne) rfl rfl (fun w hw => conv578 (bt a 1) w) (fun w hw => conv578e (bt a 1) w) ?_
  | refine GE.seq FB.rule ?_
  | refine GE.block FB.rule ?_
  | refine GE.skip FB.rule ?_
  | refine GE.inBlock FB.rule ?_
  | refine GE.regionEnd FB.rule ?_
  | refine GE.region _ FB.rule rfl ?_
  | (refine GE.cond true FB.rule rfl ?_; simp only [if_true, if_false, Bool.false_eq_true, ↓reduceIte])
  | refine GE.mv FB.rule rfl rfl rfl (by k_ne) rfl rfl ?_
  | refine GE.as FB.rule rfl rfl rfl (by k_ne) rfl rfl ?_
  | refine GE.bin FB.rule rfl rfl rfl (by k_ne) rfl rfl rfl rfl ?_)
 refine GE.inLoop FB.rule ?_
 refine GE.to [(0, .int .i64 a), (4, .string (bs a)), (6, .int .u32 (hsx a 2)), (17, .int .i64 6), (18, .int .i64 2)] ⟨rfl, rfl, rfl, rfl, rfl, trivial⟩ ?_
 repeat (first
  | refine GE.ix (v := .int .u8 (bt a 2)) FB.rule rfl rfl rfl (by k_ne) rfl rfl rfl (fun w hw => run_indexB a 2 (by decide) w) (fun w hw => ev_indexB a 2 (by decide) w) ?_
  | refine GE.cv FB.rule rfl rfl rfl (by k_ne) rfl rfl (fun w hw => conv578 (bt a 2) w) (fun w hw => conv578e (bt a 2) w) ?_
  | refine GE.seq FB.rule ?_
  | refine GE.block FB.rule ?_
  | refine GE.skip FB.rule ?_
  | refine GE.inBlock FB.rule ?_
  | refine GE.regionEnd FB.rule ?_
  | refine GE.region _ FB.rule rfl ?_
  | (refine GE.cond true FB.rule rfl ?_; simp only [if_true, if_false, Bool.false_eq_true, ↓reduceIte])
  | refine GE.mv FB.rule rfl rfl rfl (by k_ne) rfl rfl ?_
  | refine GE.as FB.rule rfl rfl rfl (by k_ne) rfl rfl ?_
  | refine GE.bin FB.rule rfl rfl rfl (by k_ne) rfl rfl rfl rfl ?_)
 refine GE.inLoop FB.rule ?_
 refine GE.to [(0, .int .i64 a), (4, .string (bs a)), (6, .int .u32 (hsx a 3)), (17, .int .i64 6), (18, .int .i64 3)] ⟨rfl, rfl, rfl, rfl, rfl, trivial⟩ ?_
 repeat (first
  | refine GE.ix (v := .int .u8 (bt a 3)) FB.rule rfl rfl rfl (by k_ne) rfl rfl rfl (fun w hw => run_indexB a 3 (by decide) w) (fun w hw => ev_indexB a 3 (by decide) w) ?_
  | refine GE.cv FB.rule rfl rfl rfl (by k_ne) rfl rfl (fun w hw => conv578 (bt a 3) w) (fun w hw => conv578e (bt a 3) w) ?_
  | refine GE.seq FB.rule ?_
  | refine GE.block FB.rule ?_
  | refine GE.skip FB.rule ?_
  | refine GE.inBlock FB.rule ?_
  | refine GE.regionEnd FB.rule ?_
  | refine GE.region _ FB.rule rfl ?_
  | (refine GE.cond true FB.rule rfl ?_; simp only [if_true, if_false, Bool.false_eq_true, ↓reduceIte])
  | refine GE.mv FB.rule rfl rfl rfl (by k_ne) rfl rfl ?_
  | refine GE.as FB.rule rfl rfl rfl (by k_ne) rfl rfl ?_
  | refine GE.bin FB.rule rfl rfl rfl (by k_ne) rfl rfl rfl rfl ?_)
 refine GE.inLoop FB.rule ?_
 refine GE.to [(0, .int .i64 a), (4, .string (bs a)), (6, .int .u32 (hsx a 4)), (17, .int .i64 6), (18, .int .i64 4)] ⟨rfl, rfl, rfl, rfl, rfl, trivial⟩ ?_
 repeat (first
  | refine GE.ix (v := .int .u8 (bt a 4)) FB.rule rfl rfl rfl (by k_ne) rfl rfl rfl (fun w hw => run_indexB a 4 (by decide) w) (fun w hw => ev_indexB a 4 (by decide) w) ?_
  | refine GE.cv FB.rule rfl rfl rfl (by k_ne) rfl rfl (fun w hw => conv578 (bt a 4) w) (fun w hw => conv578e (bt a 4) w) ?_
  | refine GE.seq FB.rule ?_
  | refine GE.block FB.rule ?_
  | refine GE.skip FB.rule ?_
  | refine GE.inBlock FB.rule ?_
  | refine GE.regionEnd FB.rule ?_
  | refine GE.region _ FB.rule rfl ?_
  | (refine GE.cond true FB.rule rfl ?_; simp only [if_true, if_false, Bool.false_eq_true, ↓reduceIte])
  | refine GE.mv FB.rule rfl rfl rfl (by k_ne) rfl rfl ?_
  | refine GE.as FB.rule rfl rfl rfl (by k_ne) rfl rfl ?_
  | refine GE.bin FB.rule rfl rfl rfl (by k_ne) rfl rfl rfl rfl ?_)
 refine GE.inLoop FB.rule ?_
 refine GE.to [(0, .int .i64 a), (4, .string (bs a)), (6, .int .u32 (hsx a 5)), (17, .int .i64 6), (18, .int .i64 5)] ⟨rfl, rfl, rfl, rfl, rfl, trivial⟩ ?_
 repeat (first
  | refine GE.ix (v := .int .u8 (bt a 5)) FB.rule rfl rfl rfl (by k_ne) rfl rfl rfl (fun w hw => run_indexB a 5 (by decide) w) (fun w hw => ev_indexB a 5 (by decide) w) ?_
  | refine GE.cv FB.rule rfl rfl rfl (by k_ne) rfl rfl (fun w hw => conv578 (bt a 5) w) (fun w hw => conv578e (bt a 5) w) ?_
  | refine GE.seq FB.rule ?_
  | refine GE.block FB.rule ?_
  | refine GE.skip FB.rule ?_
  | refine GE.inBlock FB.rule ?_
  | refine GE.regionEnd FB.rule ?_
  | refine GE.region _ FB.rule rfl ?_
  | (refine GE.cond true FB.rule rfl ?_; simp only [if_true, if_false, Bool.false_eq_true, ↓reduceIte])
  | refine GE.mv FB.rule rfl rfl rfl (by k_ne) rfl rfl ?_
  | refine GE.as FB.rule rfl rfl rfl (by k_ne) rfl rfl ?_
  | refine GE.bin FB.rule rfl rfl rfl (by k_ne) rfl rfl rfl rfl ?_)
 refine GE.inLoop FB.rule ?_
 refine GE.to [(0, .int .i64 a), (4, .string (bs a)), (6, .int .u32 (hsx a 6)), (17, .int .i64 6), (18, .int .i64 6)] ⟨rfl, rfl, rfl, rfl, rfl, trivial⟩ ?_
 repeat (first
  | refine GE.cv FB.rule rfl rfl rfl (by k_ne) rfl rfl (fun w hw => conv783 (hsx a 6) w) (fun w hw => conv783e (hsx a 6) w) ?_
  | refine GE.seq FB.rule ?_
  | refine GE.regionEnd FB.rule ?_
  | refine GE.region _ FB.rule rfl ?_
  | (refine GE.cond false FB.rule rfl ?_; simp only [if_true, if_false, Bool.false_eq_true, ↓reduceIte])
  | refine GE.exit FB.rule rfl ?_
  | refine GE.mv FB.rule rfl rfl rfl (by k_ne) rfl rfl ?_
  | refine GE.as FB.rule rfl rfl rfl (by k_ne) rfl rfl ?_
  | refine GE.bin FB.rule rfl rfl rfl (by k_ne) rfl rfl rfl rfl ?_)
 exact GE.ret2 FB.rule rfl Try.func43 rfl rfl rfl (hT d' hd' B)
set_option maxRecDepth 100000 in
set_option maxHeartbeats 8000000 in
theorem bucket_walk (hb : ∀ b, p.Rb i b → b < W.heap.size) {a m : Int} (h0 : 0 ≤ a) (h1 : a ≤ 281474976710655) (hn : m = 1 ∨ m = 2 ∨ m = 4 ∨ m = 8 ∨ m = 16) {d : Nat}
  (hT : ∀ d', d' < d → ∀ B, GsB p n i W todo d' B (six a) (G (b₀.at (a₀.put ((ops₀[i₀]?).bind (·.dst)) (.tuple #[.int .i64 (bkx a m), .int .i64 0])) (.inRegion ops₀ rest₀ :: k₀)) cs)) :
  GsA p n i W todo d .al (G ((base 44).at ⟨#[.int .i64 a, .int .i64 m] ++ Array.replicate 19 undef, []⟩ [.code c44]) (b₀.at a₀ (.inRegion ops₀ (i₀ :: rest₀) :: k₀) :: cs)) := by
 have U : Rule (EnvH p n i none false) (DoH p n i none false) (FW p n i W) := FW.rule
 refine (?_ : GA p n i W todo d .al (base 44) _ 21 [] [(0, .int .i64 a), (1, .int .i64 m)] [.code c44]) _ (by simp) (looks2 _ _ _)
 simp only [c44, Try.f44, Option.getD_some]
 repeat (first
  | refine GE.seq U ?_
  | refine GE.regionEnd U ?_
  | refine GE.region _ U rfl ?_
  | refine GE.mv U rfl rfl rfl (by k_ne) rfl rfl ?_
  | refine GE.as U rfl rfl rfl (by k_ne) rfl rfl ?_)
 refine GE.call #[.int .i64 m] U rfl rfl rfl (by k_ne) Try.func70 nm70 body70 (fun e he => by simp [he (.tmp 8) _ rfl]) fun T1 hT1 hl1 => ?_
 refine isNumber_walk U hn (GE.put (N := 21) rfl hT1 hl1 ?_)
 repeat (first
  | refine GE.seq U ?_
  | refine GE.skip U ?_
  | refine GE.regionEnd U ?_
  | refine GE.region _ U rfl ?_
  | (refine GE.cond false U rfl ?_; simp only [if_true, if_false, Bool.false_eq_true, ↓reduceIte])
  | refine GE.mv U rfl rfl rfl (by k_ne) rfl rfl ?_
  | refine GE.not U rfl rfl rfl (by k_ne) rfl rfl ?_)
 refine GE.call #[.int .i64 a] U rfl rfl rfl (by k_ne) Try.func43 nm43 body43 (fun e he => by simp [he (.tmp 12) _ rfl]) fun T2 hT2 hl2 => ?_
 refine sum_walk hb h0 h1 fun d' hd' B => GE.put (N := 21) rfl hT2 hl2 ?_
 repeat (first
  | refine GE.seq FB.rule ?_
  | refine GE.regionEnd FB.rule ?_
  | refine GE.region _ FB.rule rfl ?_
  | refine GE.mv FB.rule rfl rfl rfl (by k_ne) rfl rfl ?_
  | refine GE.as FB.rule rfl rfl rfl (by k_ne) rfl rfl ?_
  | refine GE.bin FB.rule rfl rfl rfl (by k_ne) rfl rfl rfl rfl ?_
  | refine GE.ex FB.rule rfl rfl rfl (by k_ne) rfl rfl (fun w hw => by go_simp; (try rfl)) (fun w hw => by simp [go_sem]) ?_)
 exact GE.ret2 FB.rule rfl Try.func44 rfl rfl rfl (hT d' hd' B)
end
end Go.Proofs.Ytnikfjfcbpeieaa.Hk
end
section
namespace Go.Proofs.Ytnikfjfcbpeieaa.Hk
open Go Go.Conc Go.RowKit Go.Proofs.Ytnikfjfcbpeieaa.Lk
open Go.ConcR (KK wgBlock WgAt stA smA rd wr)
open Go.ConcR.Gen
set_option linter.unusedVariables false
set_option linter.unusedSimpArgs false
noncomputable def c74 : Code := Try.f74.body.getD .skip
theorem nm75 : (Try.f75.name == "runtime.NumGoroutine") = false := by kernel_rfl
noncomputable def c75 : Code := Try.f75.body.getD .skip
theorem body75 : Try.f75.body = some c75 := rfl
theorem nm76 : (Try.f76.name == "runtime.NumGoroutine") = false := by kernel_rfl
noncomputable def c76 : Code := Try.f76.body.getD .skip
theorem body76 : Try.f76.body = some c76 := rfl
noncomputable def L74 : Code := cLp (cB (cR (cR c74)))
section
variable {P : Program} {main : Bool} {R : World → World → Prop} {D : World → World → Array Event → Prop} {Stop : Goroutine → World → Prop} {F : World → Prop} {b : Frame} {cs : List Frame} {N : Nat} {ds : List Deferred} {ρ : Rho} {k : List Item} {ops : Array Oper} {i : Nat} {rest : List Nat} {o : Oper}
theorem GE.defer {f : FuncId} {xs : Array Operand} {ats : Array TypeId} (vs : Array Value) (U : Rule R D F) (ho : ops[i]? = some o) (hop : o.op = .defer { callee := .value (.func f), args := xs, argTypes := ats }) (hw : wantB ops ρ o = some true) (hk : b.kind ≠ .early) (hd : o.dst = none)
  (hv : ∀ e : Operand → Value, (∀ x u, ev ρ x = some u → e x = u) → xs.map e = vs) (h : GE P main R D Stop F b cs N (dcall f vs :: ds) ρ (.inRegion ops rest :: k)) : GE P main R D Stop F b cs N ds ρ (.inRegion ops (i :: rest) :: k) :=
 fun T hT hl => Gs.go U rfl (fun w _ => by
  have := stepG_defer (P := P) (main := main) (b := b) (a := ⟨T, ds⟩) (k := k) (cs := cs) (w := w) (rest := rest) ho (hl.want hw) hk hop
  rw [this, hv _ fun x u e => hl.ev e, hd]
  rfl) (h T hT hl)
theorem GE.st {F' : World → Prop} {x y : Operand} {t : TypeId} {u v : Value} (wf : World → World) (U : Rule R D F) (ho : ops[i]? = some o) (hop : o.op = .store t x y) (hw : wantB ops ρ o = some true) (hk : b.kind ≠ .early) (hd : o.dst = none) (hx : ev ρ x = some u) (hy : ev ρ y = some v)
  (hr : ∀ w, F w → (Instr.storeAt t u v).run P w = .ok () (wf w)) (he : ∀ w, F w → ∀ es : Array Event, (∀ e ∈ es, e ∈ (Instr.storeAt t u v).events P w #[]) → D w (wf w) es ∧ F' (wf w))
  (h : GE P main R D Stop F' b cs N ds ρ (.inRegion ops rest :: k)) : GE P main R D Stop F b cs N ds ρ (.inRegion ops (i :: rest) :: k) :=
 GE.turn (d := none) (v := undef) U rfl (fun T hT hl w hF => by
  have e1 : execOp (Act.mk T ds).eval o = (do Instr.storeAt t u v; Pure.pure Next.skip) := by simp only [execOp, hop, hl.ev hx, hl.ev hy]
  have hs := stepG_none (P := P) (main := main) (cs := cs) (k := k) (rest := rest) (a := ⟨T, ds⟩) (w := w) (w' := wf w) ho (hl.want hw) hk (by rw [e1]; simp [hr w hF, Result.andThen])
  rw [hd] at hs
  obtain ⟨h1, h2⟩ := he w hF (listed P b.fn ⟨T, ds⟩ o w) (fun e hm => by
   have hm' := mem_listed hm
   rw [e1] at hm'
   simpa [hr w hF, Result.evThen] using hm')
  exact ⟨_, _, hs, h1, h2⟩) h
theorem Gs.unwind {a : Act} {todo : List Item} {f : FuncId} {fn : Func} {args : Array Value} {c : Code} (U : Rule R D F) (hd : a.defers = dcall f args :: ds) (hf : P.funcs[f]? = some fn) (hname : (fn.name == "runtime.NumGoroutine") = false) (hb : fn.body = some c)
  (h : Gs P main R D Stop F (G ((baseD f).at { tmps := args ++ Array.replicate (fn.ntmps - args.size) undef, defers := [] } [.code c]) ({ b.at ⟨a.tmps, ds⟩ todo with mode := .returning } :: cs))) : Gs P main R D Stop F (G { b.at a todo with mode := .returning } cs) :=
 Gs.go U rfl (fun w _ => stepG_unwind_enter hd hf hname hb) h
end
section
variable {p : Pl} {n i : Nat} {W : World} {w : World} {c : List Int} {o : Option Nat} {h : Bool} {S : Nat}
theorem FC.cell (hF : FC p n i W c w) {b : Nat} (hb : b < c.length) : w.cell? ⟨p.Al, b, none⟩ = some (.int .i64 (c.getD b 0)) := by
 have := hF.cnt
 unfold AlIs alO at this
 simp [World.cell?, this, hb, List.getD]
theorem FC.thaw (hF : FC p n i W c w) (b : Nat) : w.frozen? ⟨p.Al, b, none⟩ = false := by
 have := hF.cnt
 unfold AlIs alO at this
 simp [World.frozen?, this]
theorem FC.set (A : p.Ok) (hF : FC p n i W c w) (hn : c.length = n) (b : Nat) (z : Int) : FC p n i W (c.set b z) (w.setCell ⟨p.Al, b, none⟩ (.int .i64 z)) := by
 have B := aside_setCell w ⟨p.Al, b, none⟩ (.int .i64 z)
 obtain ⟨⟨a, s, e⟩, ⟨wd, m, e1⟩, _⟩ := hF.live
 have hal : AlIs p (c.set b z) (w.setCell ⟨p.Al, b, none⟩ (.int .i64 z)) := by
  have := hF.cnt
  unfold AlIs alO at this ⊢
  obtain ⟨hlt, he⟩ := Array.getElem?_eq_some_iff.1 this
  unfold World.setCell
  simp [hlt, Array.getElem_modify, he]
 exact ⟨⟨⟨⟨a, s, (B.block _ A.wa).trans e⟩, ⟨wd, m, (B.block _ A.ma).trans e1⟩, ⟨c.set b z, by simp [hn], hal⟩⟩, fun b hr => (B.block _ (A.rb i b hr).2.2.1).trans (hF.low b hr)⟩, hal⟩
theorem okE_gd {b : Nat} {x : Bool} (hs : p.Al < S) : OkE p i o true S ⟨.cell ⟨p.Al, b, none⟩, x, false⟩ := by
 refine ⟨fun y hy => ?_, ⟨by simp [MemAct.ofEvent], by simp [MemAct.ofEvent]⟩, hs, by simp, by simp⟩
 simp only [MemAct.ofEvent, MemAct.touch?, Option.some.injEq] at hy
 subst hy
 exact .inr (.inl ⟨⟨_, rfl, rfl⟩, rfl, rfl⟩)
theorem okE_rd {ad : Addr} (hr : p.Rb i ad.block ∨ (ad.block = p.Mu ∧ ad.off = 2)) (hs : ad.block < S) : OkE p i o h S ⟨.cell ad, false, false⟩ := by
 refine ⟨fun y hy => ?_, ⟨by simp [MemAct.ofEvent], by simp [MemAct.ofEvent]⟩, hs, by simp, by simp⟩
 simp only [MemAct.ofEvent, MemAct.touch?, Option.some.injEq] at hy
 subst hy
 exact .inl ⟨⟨ad, rfl, hr⟩, rfl, rfl⟩
theorem doH_rd {ad : Addr} {es es' : Array Event} (hes : es' = #[⟨.cell ad, false, false⟩]) (ok : OkE p i o h w.heap.size ⟨.cell ad, false, false⟩) (hm : ∀ e ∈ es, e ∈ es') : DoH p n i o h w w es :=
 ⟨rfl, rfl, rfl, rfl, fun _ _ _ => rfl, id, fun e he => by
   have := hm e he
   rw [hes] at this
   simp at this
   rw [this]; exact ok⟩
theorem blt {ad : Addr} {u : Value} (hc : w.cell? ad = some u) : ad.block < w.heap.size := by
 unfold World.cell? at hc
 split at hc
 ·rename_i hb; exact (Array.getElem?_eq_some_iff.1 hb).1
 ·cases hc
end
theorem FW.cellAl {p : Pl} {n i : Nat} {W w : World} (h : FW p n i W w) : w.cell? ⟨p.Mu, 2, none⟩ = some (.slice (some ⟨p.Al, 0, none⟩) n n) := let ⟨_, _, h⟩ := h.live.mu; h.cellAl
theorem ix57 {ad : Addr} {l cap : Nat} {z : Int} (h0 : 0 ≤ z) (h1 : z < l) (w : World) : (Instr.indexAt 57 (.slice (some ad) l cap) (.int .i64 z)).run Try.prog w = .ok (.pointer (some (ad.add z.toNat))) w := by
 have : ¬ ((l : Int) ≤ z) := by omega
 go_simp
theorem ix57e {ad : Addr} {l cap : Nat} {z : Int} (h0 : 0 ≤ z) (h1 : z < l) (w : World) : (Instr.indexAt 57 (.slice (some ad) l cap) (.int .i64 z)).events Try.prog w #[] = #[] := by
 simp [go_sem, h0, h1]
section
variable {p : Pl} {n i : Nat} {W : World} {todo : List Int} {cs : List Frame} {b₀ : Frame} {a₀ : Act} {ops₀ : Array Oper} {i₀ : Nat} {rest₀ : List Nat} {k₀ : List Item}
set_option maxRecDepth 100000 in
set_option maxHeartbeats 8000000 in
theorem add_walk (A : p.Ok) {bq : Int} (hb : 0 ≤ bq ∧ bq < n) 
  (h0 : todo ≠ [] → ∀ d, GsA p n i W todo d .al (G (b₀.at (a₀.put ((ops₀[i₀]?).bind (·.dst)) (.tuple #[])) (.inRegion ops₀ rest₀ :: k₀)) cs))
  (h1 : todo = [] → GsR p n i W (G (b₀.at (a₀.put ((ops₀[i₀]?).bind (·.dst)) (.tuple #[])) (.inRegion ops₀ rest₀ :: k₀)) cs)) (d : Nat) :
  GsA p n i W (bq :: todo) d .ld (G ((base 76).at ⟨#[.pointer (some (mA p.Mu)), .int .i64 bq] ++ Array.replicate 18 undef, []⟩ [.code c76]) (b₀.at a₀ (.inRegion ops₀ (i₀ :: rest₀) :: k₀) :: cs)) := by
 have U : Rule (EnvH p n i none false) (DoH p n i none false) (FW p n i W) := FW.rule
 refine (?_ : GA p n i W (bq :: todo) d .ld (base 76) _ 20 [] [(0, .pointer (some (mA p.Mu))), (1, .int .i64 bq)] [.code c76]) _ (by simp) (looks2 _ _ _)
 simp only [c76, Try.f76, Option.getD_some]
 repeat (first
  | refine GE.fa U rfl rfl rfl (by k_ne) rfl rfl (fun w hw => by go_simp; (try rfl)) (fun w hw => by simp [go_sem]) ?_
  | refine GE.seq U ?_
  | refine GE.region _ U rfl ?_
  | refine GE.mv U rfl rfl rfl (by k_ne) rfl rfl ?_
  | refine GE.nil U rfl rfl rfl (by k_ne) rfl rfl ?_)
 refine GE.call #[.pointer (some (mA p.Mu))] U rfl rfl rfl (by k_ne) Try.func105 nm105 body105 (fun e he => by simp [he (.tmp 6) _ rfl]) fun T1 hT1 hl1 => ?_
 refine lock_walk A (fun d' c hc => ?_) d
 have U : Rule (EnvH p n i none true) (DoH p n i none true) (FC p n i W c) := FC.rule
 refine GE.put (N := 20) rfl hT1 hl1 ?_
 refine GE.to [(0, .pointer (some (mA p.Mu))), (1, .int .i64 bq)] ⟨rfl, rfl, trivial⟩ ?_
 have hbl : bq.toNat < c.length := by omega
 have add0 : (⟨p.Al, 0, none⟩ : Addr).add bq.toNat = ⟨p.Al, bq.toNat, none⟩ := by
  simp [Addr.add]
  try (intro h; omega)
 repeat (first
  | refine GE.fa U rfl rfl rfl (by k_ne) rfl rfl (fun w hw => by go_simp; (try rfl)) (fun w hw => by simp [go_sem]) ?_
  | refine GE.defer #[.pointer (some (mA p.Mu))] U rfl rfl rfl (by k_ne) rfl (fun e he => by simp [he (.tmp 10) _ rfl]) ?_
  | refine GE.seq U ?_
  | refine GE.regionEnd U ?_
  | refine GE.region _ U rfl ?_
  | refine GE.mv U rfl rfl rfl (by k_ne) rfl rfl ?_
  | refine GE.nil U rfl rfl rfl (by k_ne) rfl rfl ?_)
 refine GE.rd U rfl rfl rfl (by k_ne) rfl rfl (v := .slice (some ⟨p.Al, 0, none⟩) n n) (fun w hw => run_load57 w (ad := ⟨p.Mu, 2, none⟩) hw.toFW.cellAl) (fun w hw es hm => doH_rd (ev_load57 w (ad := ⟨p.Mu, 2, none⟩) hw.toFW.cellAl) (okE_rd (.inr ⟨rfl, rfl⟩) hw.toFW.lt.2.1) hm) ?_
 refine GE.mv U rfl rfl rfl (by k_ne) rfl rfl ?_
 refine GE.ia U rfl rfl rfl (by k_ne) rfl rfl rfl (fun w hw => ix57 hb.1 hb.2 w) (fun w hw => ix57e hb.1 hb.2 w) ?_
 rw [add0]
 refine GE.rd U rfl rfl rfl (by k_ne) rfl rfl (v := .int .i64 (c.getD bq.toNat 0)) (fun w hw => run_loadI w (hw.cell hbl)) (fun w hw es hm => doH_rd (ev_loadI w (hw.cell hbl)) (okE_gd hw.toFW.lt.2.2) hm) ?_
 refine GE.bin U rfl rfl rfl (by k_ne) rfl rfl rfl rfl ?_
 refine GE.ia U rfl rfl rfl (by k_ne) rfl rfl rfl (fun w hw => ix57 hb.1 hb.2 w) (fun w hw => ix57e hb.1 hb.2 w) ?_
 rw [add0]
 refine GE.st (F' := FC p n i W (inc c bq)) (fun w => w.setCell ⟨p.Al, bq.toNat, none⟩ (.int .i64 (IntKind.i64.wrap (c.getD bq.toNat 0 + 1)))) U rfl rfl rfl (by k_ne) rfl rfl rfl (fun w hw => run_storeI w (.inr rfl) (hw.cell hbl) (hw.thaw _)) (fun w hw es hm => ?_) ?_
 ·have B := aside_setCell w ⟨p.Al, bq.toNat, none⟩ (.int .i64 (IntKind.i64.wrap (c.getD bq.toNat 0 + 1)))
  have hF' := hw.set A hc bq.toNat (IntKind.i64.wrap (c.getD bq.toNat 0 + 1))
  refine ⟨⟨B.tape, B.output, B.os, B.size, fun b _ h => B.block b (fun e => by cases h e), fun _ => hF'.live, fun e he => ?_⟩, hF'⟩
  have hm' := hm e he
  rw [ev_storeI w (.inr rfl) (hw.cell hbl) (hw.thaw _)] at hm'
  simp at hm'
  rw [hm', B.size]
  exact okE_gd hw.toFW.lt.2.2
 have U : Rule (EnvH p n i none true) (DoH p n i none true) (FC p n i W (inc c bq)) := FC.rule
 have U1 : Rule (EnvH p n i none false) (DoH p n i none false) (FW p n i W) := FW.rule
 refine GE.regionEnd U fun T hT hl => Gs.end_ U (Gs.unwind U rfl Try.func106 nm106 body106 ?_)
 refine unlock_walk A rfl (fun hne d => ?_) (fun he => ?_) d'
 ·exact Gs.leave0 (a := ⟨T, []⟩) U1 rfl rfl Try.func76 rfl (h0 hne d)
 ·exact Gs.leave0 (a := ⟨T, []⟩) U1 rfl rfl Try.func76 rfl (h1 he)
end
theorem ltT {a c : Int} (h : a < c) : binOp .lss 3 (.int .i64 a) (.int .i64 c) = pure (.bool true) := by
 have e : binOp .lss 3 (.int .i64 a) (.int .i64 c) = pure (.bool (decide (a < c))) := rfl
 rw [e, decide_eq_true h]
theorem ltF {a c : Int} (h : ¬ a < c) : binOp .lss 3 (.int .i64 a) (.int .i64 c) = pure (.bool false) := by
 have e : binOp .lss 3 (.int .i64 a) (.int .i64 c) = pure (.bool (decide (a < c))) := rfl
 rw [e, decide_eq_false h]
theorem wrap_id {x : Int} (h0 : 0 ≤ x) (h1 : x < 9223372036854775808) : IntKind.i64.wrap x = x := by
 simp [IntKind.wrap, IntKind.signed, IntKind.bits]
 omega
theorem wrapq {q : Nat} (h : q < 1000000000) : IntKind.i64.wrap ((q : Int) + 1) = ((q + 1 : Nat) : Int) := by
 rw [wrap_id (by omega) (by omega)]
 omega
theorem bkx_range {a n : Int} (hn : n = 1 ∨ n = 2 ∨ n = 4 ∨ n = 8 ∨ n = 16) : 0 ≤ bkx a n ∧ bkx a n < n := by
 have key : ∀ m : Nat, m < 1000 → 0 ≤ bits .and .i64 (sumx a) (m : Int) ∧ bits .and .i64 (sumx a) (m : Int) ≤ m := fun m hm => by
  have e : bits .and .i64 (sumx a) (m : Int) = IntKind.i64.wrap ((BitVec.ofInt 64 (sumx a) &&& BitVec.ofInt 64 (m : Int)).toNat : Int) := rfl
  have h1 : (BitVec.ofInt 64 (sumx a) &&& BitVec.ofInt 64 (m : Int)).toNat ≤ m := by
   rw [BitVec.toNat_and]
   refine Nat.le_trans Nat.and_le_right ?_
   simp
   omega
  rw [e, wrap_id (by omega) (by omega)]
  omega
 unfold bkx
 rcases hn with rfl | rfl | rfl | rfl | rfl
 ·have := key 0 (by omega); rw [show IntKind.i64.wrap (1 - 1) = ((0 : Nat) : Int) by decide]; omega
 ·have := key 1 (by omega); rw [show IntKind.i64.wrap (2 - 1) = ((1 : Nat) : Int) by decide]; omega
 ·have := key 3 (by omega); rw [show IntKind.i64.wrap (4 - 1) = ((3 : Nat) : Int) by decide]; omega
 ·have := key 7 (by omega); rw [show IntKind.i64.wrap (8 - 1) = ((7 : Nat) : Int) by decide]; omega
 ·have := key 15 (by omega); rw [show IntKind.i64.wrap (16 - 1) = ((15 : Nat) : Int) by decide]; omega
structure KH (p : Pl) (n i : Nat) (W : World) (h nb cb : Nat) (A : Option Addr) (len cap : Nat) (l : List Int) : Prop where
 ok : p.Ok
 rbh : p.Rb i h
 rbn : p.Rb i nb
 rbc : p.Rb i cb
 rbA : ∀ ad, A = some ad → p.Rb i ad.block
 lt : ∀ b, p.Rb i b → b < W.heap.size
 half : W.cell? ⟨h, 0, none⟩ = some (.slice A len cap)
 num : W.cell? ⟨nb, 0, none⟩ = some (.int .i64 n)
 cc : W.cell? ⟨cb, 0, none⟩ = some (.pointer (some (mA p.Mu)))
 el : ∀ q ad, q < len → A = some ad → W.cell? (ad.add q) = some (.int .i64 (l.getD q 0))
 nil : 0 < len → ∃ ad, A = some ad
 ll : l.length = len
 small : len ≤ 1000000000
 rng : ∀ x ∈ l, 0 ≤ x ∧ x ≤ 281474976710655
 nn : (n : Int) = 1 ∨ (n : Int) = 2 ∨ (n : Int) = 4 ∨ (n : Int) = 8 ∨ (n : Int) = 16
def bkl (n : Nat) (l : List Int) : List Int := l.map fun x => bkx x n
noncomputable def bot : Frame := { (default : Frame) with fn := Try.prog.funcs.size, defers := [], mode := .panicking [goexitEntry] }
def call74 (Wg h nb cb : Nat) : Deferred := { target := .fn (.func 74) #[.pointer (some ⟨Wg, 0, none⟩), .pointer (some ⟨h, 0, none⟩), .pointer (some ⟨nb, 0, none⟩), .pointer (some ⟨cb, 0, none⟩)], args := #[] }
theorem born_step (Wg h nb cb : Nat) (w : World) : stepG Try.prog false (born Try.prog (call74 Wg h nb cb)) w =
  .go (G ((baseD 74).at ⟨#[.pointer (some ⟨Wg, 0, none⟩), .pointer (some ⟨h, 0, none⟩), .pointer (some ⟨nb, 0, none⟩), .pointer (some ⟨cb, 0, none⟩)] ++ Array.replicate 20 undef, []⟩ [.code c74]) [bot]) w #[] := by
 simp [born, call74, stepG, unwind, callDeferred, invoke, callFunc, Try.func74, Try.f74, seen, GStep.after, G, Frame.enter, Frame.at, baseD, bot, c74]
theorem tail74 (T : Array Value) (todo : List Item) : Qs Try.prog 0 (G { (baseD 74).at ⟨T, []⟩ todo with mode := .returning } [bot]) := by
 refine Qs.ctl (g' := G bot []) rfl (fun w => ?_) (Qs.ctl (g' := { G bot [] with status := .finished }) rfl (fun w => ?_) ⟨0, rfl, rfl⟩)
 ·simp [G, stepG, unwind, doReturn, results, Frame.at, baseD, bot, Try.func74, Try.f74, seen, GStep.after, goexitEntry]
 ·simp [G, stepG, unwind, bot, goexitEntry, Frame.catches]
  rfl
section
variable {p : Pl} {n i : Nat} {W : World} {h nb cb : Nat} {A : Option Addr} {len cap : Nat} {l : List Int}
theorem KH.cell (K : KH p n i W h nb cb A len cap l) {w : World} (hF : FW p n i W w) {ad : Addr} {u : Value} (hr : p.Rb i ad.block) (e : W.cell? ad = some u) : w.cell? ad = some u := (World.cell?_of_block (hF.low ad.block hr)).trans e
abbrev rhoW (p : Pl) (nb cb : Nat) (A : Option Addr) (len cap q : Nat) : Rho := [(0, .pointer (some ⟨p.Wg, 0, none⟩)), (2, .pointer (some ⟨nb, 0, none⟩)), (3, .pointer (some ⟨cb, 0, none⟩)), (8, .slice A len cap), (9, .int .i64 len), (10, .int .i64 q)]
set_option maxRecDepth 100000 in
set_option maxHeartbeats 8000000 in
theorem lap_from (K : KH p n i W h nb cb A len cap l) : ∀ (m q : Nat), q + m = len →
  (m = 0 → GE Try.prog false (EnvH p n i none false) (DoH p n i none false) (SRH p n i) (FW p n i W) (baseD 74) [bot] 24 [dcall 75 #[.pointer (some ⟨p.Wg, 0, none⟩)]] (rhoW p nb cb A len cap q) [.code L74, .inLoop L74, .inBlock 0]) ∧
  (m ≠ 0 → ∀ d, GA p n i W (bkl n (l.drop q)) d .al (baseD 74) [bot] 24 [dcall 75 #[.pointer (some ⟨p.Wg, 0, none⟩)]] (rhoW p nb cb A len cap q) [.code L74, .inLoop L74, .inBlock 0]) := by
 have U : Rule (EnvH p n i none false) (DoH p n i none false) (FW p n i W) := FW.rule
 intro m
 induction m with
 | zero =>
  intro q hq
  refine ⟨fun _ => ?_, fun h => absurd rfl h⟩
  obtain rfl : q = len := by omega
  have hnl : ¬ ((q : Int) < (q : Int)) := by omega
  simp only [L74, c74, Try.f74, Option.getD_some, cR, cB, cLp]
  repeat (first
   | refine GE.bin (op := .lss) (v := .bool false) U rfl rfl rfl (by k_ne) rfl rfl rfl (ltF hnl) ?_
   | refine GE.seq U ?_
   | refine GE.regionEnd U ?_
   | refine GE.region _ U rfl ?_
   | (refine GE.cond false U rfl ?_; simp only [if_true, if_false, Bool.false_eq_true, ↓reduceIte])
   | refine GE.exit U rfl ?_)
  refine fun T hT hl => Gs.end_ U (Gs.unwind U rfl Try.func75 nm75 body75 ?_)
  exact Hk.Gs.sub (fun _ _ e => e) (fun _ _ _ e => by obtain ⟨rfl, rfl⟩ := e; exact DoH.refl _) (fun w hF => hF.live.wg) (done_walk (fun w w₁ l e => e.wg l) rfl (tail74 T []))
 | succ m ih =>
  intro q hq
  refine ⟨fun h => by omega, fun _ d => ?_⟩
  have hql : q < len := by omega
  obtain ⟨ad, hA⟩ := K.nil (by omega)
  have hlt : ((q : Int) < (len : Int)) := by omega
  have hqL : q < l.length := by rw [K.ll]; exact hql
  have hx := K.rng l[q] (List.getElem_mem hqL)
  have hgd : l.getD q 0 = l[q] := by simp [List.getD, hqL]
  have hdrop : bkl n (l.drop q) = bkx l[q] n :: bkl n (l.drop (q + 1)) := by rw [List.drop_eq_getElem_cons hqL]; rfl
  have hbk := bkx_range (a := l[q]) K.nn
  have hsm := K.small
  rw [hdrop]
  have next := ih (q + 1) (by omega)
  have hel : ∀ w, FW p n i W w → w.cell? (ad.add q) = some (.int .i64 l[q]) := fun w hF => K.cell hF (by rw [add_block]; exact K.rbA ad hA) (by rw [K.el q ad hql hA, hgd])
  subst hA
  simp only [L74, c74, Try.f74, Option.getD_some, cR, cB, cLp] at next ⊢
  repeat (first
   | refine GE.bin (op := .lss) (v := .bool true) U rfl rfl rfl (by k_ne) rfl rfl rfl (ltT hlt) ?_
   | refine GE.ia U rfl rfl rfl (by k_ne) rfl rfl rfl (fun w hw => ix57 (by omega) hlt w) (fun w hw => ix57e (by omega) hlt w) ?_
   | refine GE.seq U ?_
   | refine GE.block U ?_
   | refine GE.skip U ?_
   | refine GE.regionEnd U ?_
   | refine GE.region _ U rfl ?_
   | (refine GE.cond true U rfl ?_; simp only [if_true, if_false, Bool.false_eq_true, ↓reduceIte]))
  refine GE.rd U rfl rfl rfl (by k_ne) rfl rfl (v := .int .i64 l[q]) (fun w hw => run_loadI w (hel w hw)) (fun w hw es hm => doH_rd (ev_loadI w (hel w hw)) (okE_rd (.inl (by rw [add_block]; exact K.rbA ad rfl)) (blt (hel w hw))) hm) ?_
  repeat (first
   | refine GE.seq U ?_
   | refine GE.regionEnd U ?_
   | refine GE.region _ U rfl ?_
   | refine GE.mv U rfl rfl rfl (by k_ne) rfl rfl ?_
   | refine GE.as U rfl rfl rfl (by k_ne) rfl rfl ?_)
  refine GE.rd U rfl rfl rfl (by k_ne) rfl rfl (v := .int .i64 n) (fun w hw => run_loadI w (K.cell hw K.rbn K.num)) (fun w hw es hm => doH_rd (ev_loadI w (K.cell hw K.rbn K.num)) (okE_rd (.inl K.rbn) (blt (K.cell hw K.rbn K.num))) hm) ?_
  refine GE.call #[.int .i64 l[q], .int .i64 n] U rfl rfl rfl (by k_ne) Try.func44 nm44 body44 (fun e he => by simp [he (.tmp 15) _ rfl, he (.tmp 16) _ rfl]) fun T1 hT1 hl1 => ?_
  refine bucket_walk K.lt hx.1 hx.2 K.nn fun d' hd' B => GE.put (N := 24) rfl hT1 hl1 ?_
  repeat (first
   | refine GE.regionEnd FB.rule ?_
   | refine GE.region _ FB.rule rfl ?_
   | refine GE.mv FB.rule rfl rfl rfl (by k_ne) rfl rfl ?_
   | refine GE.as FB.rule rfl rfl rfl (by k_ne) rfl rfl ?_
   | refine GE.ex FB.rule rfl rfl rfl (by k_ne) rfl rfl (fun w hw => by go_simp; (try rfl)) (fun w hw => by simp [go_sem]) ?_)
  refine GE.rd FB.rule rfl rfl rfl (by k_ne) rfl rfl (v := .pointer (some (mA p.Mu))) (fun w hw => run_load101 w (K.cell hw.toFW K.rbc K.cc)) (fun w hw es hm => doH_rd (ev_load101 w (K.cell hw.toFW K.rbc K.cc)) (okE_rd (.inl K.rbc) (blt (K.cell hw.toFW K.rbc K.cc))) hm) ?_
  repeat (first
   | refine GE.mv FB.rule rfl rfl rfl (by k_ne) rfl rfl ?_)
  refine GE.call #[.pointer (some (mA p.Mu)), .int .i64 (bkx l[q] n)] FB.rule rfl rfl rfl (by k_ne) Try.func76 nm76 body76 (fun e he => by simp [he (.tmp 20) _ rfl, he (.tmp 21) _ rfl]) fun T2 hT2 hl2 => ?_
  refine gb_forget (add_walk K.ok hbk (fun hne d => GE.put (N := 24) rfl hT2 hl2 ?_) (fun he => GE.put (N := 24) rfl hT2 hl2 ?_) d')
  repeat (first
   | refine GE.inBlock U ?_
   | refine GE.regionEnd U ?_
   | refine GE.region _ U rfl ?_
   | refine GE.mv U rfl rfl rfl (by k_ne) rfl rfl ?_
   | refine GE.bin U rfl rfl rfl (by k_ne) rfl rfl rfl rfl ?_)
  ·refine GE.inLoop U (GE.to (rhoW p nb cb (some ad) len cap (q + 1)) ⟨rfl, rfl, rfl, rfl, rfl, congrArg (fun z => some (Value.int .i64 z)) (wrapq (by omega)), trivial⟩ (next.2 (fun h0 => ?_) d))
   apply hne
   have : q + 1 = l.length := by rw [K.ll]; omega
   simp [bkl, this]
  repeat (first
   | refine GE.inBlock U ?_
   | refine GE.regionEnd U ?_
   | refine GE.region _ U rfl ?_
   | refine GE.mv U rfl rfl rfl (by k_ne) rfl rfl ?_
   | refine GE.bin U rfl rfl rfl (by k_ne) rfl rfl rfl rfl ?_)
  ·refine GE.inLoop U (GE.to (rhoW p nb cb (some ad) len cap (q + 1)) ⟨rfl, rfl, rfl, rfl, rfl, congrArg (fun z => some (Value.int .i64 z)) (wrapq (by omega)), trivial⟩ (next.1 ?_))
   have hll := K.ll
   have := congrArg List.length he
   simp [bkl] at this
   omega
set_option maxRecDepth 100000 in
set_option maxHeartbeats 8000000 in
theorem worker_start (K : KH p n i W h nb cb A len cap l) (k : Nat) {w : World} (hw : FW p n i W w) : StartW p n i (bkl n l) k (born Try.prog (call74 p.Wg h nb cb)) w := by
 have U : Rule (EnvH p n i none false) (DoH p n i none false) (FW p n i W) := FW.rule
 have hll := K.ll
 have go : ∀ {Stop : Goroutine → World → Prop}, GE Try.prog false (EnvH p n i none false) (DoH p n i none false) Stop (FW p n i W) (baseD 74) [bot] 24 [dcall 75 #[.pointer (some ⟨p.Wg, 0, none⟩)]] (rhoW p nb cb A len cap 0) [.code L74, .inLoop L74, .inBlock 0] →
   Gs Try.prog false (EnvH p n i none false) (DoH p n i none false) Stop (FW p n i W) (born Try.prog (call74 p.Wg h nb cb)) := fun {Stop} hst => by
  refine Gs.go U rfl (fun w hw => born_step p.Wg h nb cb w) ?_
  refine (?_ : GE Try.prog false (EnvH p n i none false) (DoH p n i none false) Stop (FW p n i W) (baseD 74) [bot] 24 [] [(0, .pointer (some ⟨p.Wg, 0, none⟩)), (1, .pointer (some ⟨h, 0, none⟩)), (2, .pointer (some ⟨nb, 0, none⟩)), (3, .pointer (some ⟨cb, 0, none⟩))] [.code c74]) _ (by simp) (looks4 _ _ _ _ _)
  simp only [L74, c74, Try.f74, Option.getD_some, cR, cB, cLp] at hst ⊢
  repeat (first
   | refine GE.defer #[.pointer (some ⟨p.Wg, 0, none⟩)] U rfl rfl rfl (by k_ne) rfl (fun e he => by simp [he (.tmp 0) _ rfl]) ?_
   | refine GE.seq U ?_
   | refine GE.regionEnd U ?_
   | refine GE.region _ U rfl ?_)
  refine GE.rd U rfl rfl rfl (by k_ne) rfl rfl (v := .slice A len cap) (fun w hw => run_load57 w (K.cell hw K.rbh K.half)) (fun w hw es hm => doH_rd (ev_load57 w (K.cell hw K.rbh K.half)) (okE_rd (.inl K.rbh) (blt (K.cell hw K.rbh K.half))) hm) ?_
  refine GE.len U rfl rfl rfl (by k_ne) rfl rfl (l := len) (fun w hw => by simp [go_sem]) (fun w hw => by simp [go_sem]) ?_
  repeat (first
   | refine GE.block U ?_
   | refine GE.regionEnd U ?_
   | refine GE.mv U rfl rfl rfl (by k_ne) rfl rfl ?_)
  refine GE.loop U ?_
  exact GE.to (rhoW p nb cb A len cap 0) ⟨rfl, rfl, rfl, rfl, rfl, rfl, trivial⟩ hst
 refine ⟨fun he => ?_, fun hne => ?_⟩
 ·have h0 : l = [] := by simpa [bkl] using he
  have : len = 0 := by rw [← hll, h0]; rfl
  exact (go ((lap_from K len 0 (by omega)).1 this)).runs hw
 ·have h0 : l ≠ [] := by simpa [bkl] using hne
  have : len ≠ 0 := fun e => h0 (List.eq_nil_of_length_eq_zero (by omega))
  exact (go ((lap_from K len 0 (by omega)).2 this k)).runs hw
end
end Go.Proofs.Ytnikfjfcbpeieaa.Hk
end
