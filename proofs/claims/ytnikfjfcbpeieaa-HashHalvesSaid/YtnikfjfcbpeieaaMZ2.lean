/- What the starter of hash.Spread knows, alone and beside its workers. -/
/- The starter of hash.Spread beside its workers; and, behind Wait, alone again. Written by mkze.py. -/
/- hash.Spread, alone among leavers: from its entry to its early returns, or to the first call of Add. Written by mkzf.py. -/
/- hash.Spread in company: from its call to its return. -/
import Derived.Test.YtnikfjfcbpeieaaMZa
import Derived.Test.YtnikfjfcbpeieaaMZ1
import Derived.Test.YtnikfjfcbpeieaaMH4
import Derived.Test.YtnikfjfcbpeieaaML
section
namespace Go.Proofs.Ytnikfjfcbpeieaa.Hk
open Go Go.Conc Go.RowKit Go.Proofs.Ytnikfjfcbpeieaa.Lk
open Go.ConcN (sumTo upd sumTo_upd upd_ne upd_same)
open Go.ConcR (KK wgBlock WgAt stA smA rd wr)
set_option linter.unusedVariables false
set_option linter.unusedSimpArgs false
section
variable {P : Program} {I : World → Trace → Prop}
theorem turnI (hA : ∀ (t : Trace) (w : World) (d : Nat), I w t → I (w.at d) t) (hI : ∀ (t : Trace) (w : World) (g : Nat) (fn : FuncId) (pos : String) (es : Array Event), g ≠ 0 → (∀ e ∈ es, e.mute = true) → I w t → I w (t ++ MemOp.ofEvents g fn pos es)) {a : Goroutine} (hrun : a.status = .running) : ∀ (M : Nat) (gs : Array Goroutine) (w : World) (sl : Option (Nat × Nat)) (t : Trace) (q : Nat → Nat), sumTo gs.size q ≤ M → gs[0]? = some a → Leavers P t gs q → I w t →
  ∃ (N : Nat) (gs' : Array Goroutine) (d0 : Nat) (sl' : Option (Nat × Nat)) (t' : Trace) (q' : Nat → Nat) (d : Nat) (sl2 : Option (Nat × Nat)),
   runNT P N (crowd gs w sl) t = (.next (crowd gs' (w.at d0) sl'), t') ∧ gs'.size = gs.size ∧ gs'[0]? = some a ∧ Leavers P t' gs' q' ∧ I (w.at d0) t' ∧ stepT P (crowd gs' (w.at d0) sl') = runT P (crowd gs' (w.at d) sl2) 0 := by
 intro M
 induction M with
 | zero =>
  intro gs w sl t q hM h0 hL hP
  have haw : ∀ g ∈ gs, awake g := by
   intro g hg
   obtain ⟨i, hi, rfl⟩ := Array.mem_iff_getElem.1 hg
   rcases Nat.eq_zero_or_pos i with rfl | hpos
   ·have : gs[0] = a := by simpa [Array.getElem?_eq_getElem hi] using h0
    rw [this]; exact awake_of (.inl hrun)
   ·exact awake_of ((hL.old i _ hpos (Array.getElem?_eq_getElem hi)).status.elim .inl fun x => .inr (.inr x))
  obtain ⟨i, g, d, sl', hi, hg, hst⟩ := crowd_pick (P := P) (w := w) (sl := sl) haw ⟨0, a, h0, hrun⟩
  rcases Nat.eq_zero_or_pos i with rfl | hpos
  ·exact ⟨0, gs, w.drawn, sl, t, q, d, sl', rfl, rfl, h0, hL, hP, hst⟩
  ·have hq := hL.old i g hpos hi
   have hlt : i < gs.size := (Array.getElem?_eq_some_iff.1 hi).1
   have : q i = 0 := by
    have h5 : sumTo gs.size (upd q i 0) + q i = sumTo gs.size q + 0 := by
     have := sumTo_upd q 0 id hlt
     simpa using this
    omega
   rw [this] at hq
   rw [hq.1] at hg; cases hg
 | succ M ih =>
  intro gs w sl t q hM h0 hL hP
  have haw : ∀ g ∈ gs, awake g := by
   intro g hg
   obtain ⟨i, hi, rfl⟩ := Array.mem_iff_getElem.1 hg
   rcases Nat.eq_zero_or_pos i with rfl | hpos
   ·have : gs[0] = a := by simpa [Array.getElem?_eq_getElem hi] using h0
    rw [this]; exact awake_of (.inl hrun)
   ·exact awake_of ((hL.old i _ hpos (Array.getElem?_eq_getElem hi)).status.elim .inl fun x => .inr (.inr x))
  obtain ⟨i, g, d, sl', hi, hg, hst⟩ := crowd_pick (P := P) (w := w) (sl := sl) haw ⟨0, a, h0, hrun⟩
  rcases Nat.eq_zero_or_pos i with rfl | hpos
  ·exact ⟨0, gs, w.drawn, sl, t, q, d, sl', rfl, rfl, h0, hL, hP, hst⟩
  · -- a leaver slips
   have hq := hL.old i g hpos hi
   have hi0 : (i == 0) = false := by simp; omega
   have hlt : i < gs.size := (Array.getElem?_eq_some_iff.1 hi).1
   cases hqi : q i with
   | zero => rw [hqi] at hq; rw [hq.1] at hg; cases hg
   | succ k =>
    rw [hqi] at hq
    rcases hq with ⟨hf, _⟩ | ⟨_, g', es, hm, hstp, hq'⟩
    ·rw [hf] at hg; cases hg
    have hrunT := runT_crowd_go (P := P) (sl := sl') (i := i) hi (by rw [hi0]; exact hstp (w.at d))
    have hsz : ((gs.map (woken P g g' (w.at d))).setIfInBounds i g').size = gs.size := by simp
    have hsum : sumTo gs.size (upd q i k) + (k + 1) = sumTo gs.size q + k := by
     have := sumTo_upd q k id hlt
     simpa [hqi] using this
    obtain ⟨N, gs', d0, sl'', t', q', d2, sl2, hr, hs', h0', hL', hP', hS⟩ := ih ((gs.map (woken P g g' (w.at d))).setIfInBounds i g') (w.at d) sl' (t ++ MemOp.ofEvents i g.frame.fn g.frame.place es) (upd q i k) (by rw [hsz]; omega)
     (by
       have hne : i ≠ 0 := by omega
       rw [Array.getElem?_setIfInBounds_ne hne, Array.getElem?_map, h0]
       simp [woken_run hrun])
     ⟨fun j x hj hx => by
       by_cases hji : i = j
       ·subst hji
        rw [Array.getElem?_setIfInBounds_self_of_lt (by simpa using hlt)] at hx
        obtain rfl := Option.some.inj hx
        rw [upd_same, Deaf_own]
        exact hq'
       ·rw [Array.getElem?_setIfInBounds_ne hji, Array.getElem?_map] at hx
        obtain ⟨y, hy, rfl⟩ := Option.map_eq_some_iff.1 hx
        have hqj := hL.old j y hj hy
        rw [woken_quitsD hqj, upd_ne q k (Ne.symm hji), Deaf_other t hji _ (fun op hop => by obtain ⟨e, _, rfl⟩ := Go.Conc.mem_ofEvents hop; rfl)]
        exact hqj, fun j hj => by
       rw [Deaf_other t (g' := i) (by simp at hj; omega) _ (fun op hop => by obtain ⟨e, _, rfl⟩ := Go.Conc.mem_ofEvents hop; rfl)]
       exact hL.above j (by simpa using hj)⟩
     (hI _ _ _ _ _ _ (by omega) hm (hA _ _ _ hP))
    exact ⟨N + 1, gs', d0, sl'', t', q', d2, sl2, by simp only [runNT, hst, hrunT]; exact hr, hs'.trans hsz, h0', hL', hP', hS⟩
theorem walkI {D : World → World → Array Event → Prop} {Stop : Goroutine → World → Prop} (hA : ∀ (t : Trace) (w : World) (d : Nat), I w t → I (w.at d) t) (hI : ∀ (t : Trace) (w : World) (g : Nat) (fn : FuncId) (pos : String) (es : Array Event), g ≠ 0 → (∀ e ∈ es, e.mute = true) → I w t → I w (t ++ MemOp.ofEvents g fn pos es))
  (hD : ∀ (t : Trace) (fn : FuncId) (pos : String) (w w' : World) (es : Array Event), D w w' es → I w t → I w' (t ++ MemOp.ofEvents 0 fn pos es)) :
  ∀ (n : Nat) (gs : Array Goroutine) (a : Goroutine) (w : World) (sl : Option (Nat × Nat)) (t : Trace) (q : Nat → Nat), gs[0]? = some a → Leavers P t gs q → I w t → Goes P true AtRel D Stop n a w →
   ∃ (N : Nat) (gs' : Array Goroutine) (a' : Goroutine) (w' : World) (sl' : Option (Nat × Nat)) (t' : Trace) (q' : Nat → Nat),
    runNT P N (crowd gs w sl) t = (.next (crowd gs' w' sl'), t') ∧ gs'.size = gs.size ∧ gs'[0]? = some a' ∧ Stop a' w' ∧ Leavers P t' gs' q' ∧ I w' t' := by
 intro n
 induction n with
 | zero => exact fun gs a w sl t q h0 hL hP hG => ⟨0, gs, a, w, sl, t, q, rfl, rfl, h0, hG w (atRel_refl w), hL, hP⟩
 | succ n ih =>
  intro gs a w sl t q h0 hL hP hG
  rcases hG with hstop | ⟨hrun, hstep⟩
  ·exact ⟨0, gs, a, w, sl, t, q, rfl, rfl, h0, hstop w (atRel_refl w), hL, hP⟩
  obtain ⟨N, gs1, d0, sl1, t1, q1, d, sl2, r1, r2, r3, r4, r5, r6⟩ := turnI (P := P) hA hI hrun _ gs w sl t q (Nat.le_refl _) h0 hL hP
  have hs := hstep (w.at d) ⟨d, rfl⟩
  cases hgo : stepG P true a (w.at d) with
  | go a' w' es =>
   rw [hgo, goes_go] at hs
   obtain ⟨hd, hG'⟩ := hs
   have hrunT := runT_crowd_go (P := P) (sl := sl2) (i := 0) r3 (show stepG P (0 == 0) a (w.at d) = _ from hgo)
   have hlt : 0 < gs1.size := (Array.getElem?_eq_some_iff.1 r3).1
   obtain ⟨N2, gs', a'', w'', sl'', t', q', k1, k2, k3, k4, k5, k6⟩ := ih ((gs1.map (woken P a a' w')).setIfInBounds 0 a') a' w' sl2 (t1 ++ MemOp.ofEvents 0 a.frame.fn a.frame.place es) q1 (by simp [hlt])
    ⟨fun j x hj hx => by
      have hne : 0 ≠ j := by omega
      rw [Array.getElem?_setIfInBounds_ne hne, Array.getElem?_map] at hx
      obtain ⟨y, hy, rfl⟩ := Option.map_eq_some_iff.1 hx
      have hq := r4.old j y hj hy
      rw [woken_quitsD hq, Deaf_other t1 (by omega) _ (fun op hop => by obtain ⟨e, _, rfl⟩ := Go.Conc.mem_ofEvents hop; rfl)]
      exact hq, fun j hj => by
      rw [Deaf_other t1 (g' := 0) (by simp at hj; omega) _ (fun op hop => by obtain ⟨e, _, rfl⟩ := Go.Conc.mem_ofEvents hop; rfl)]
      exact r4.above j (by simpa using hj)⟩
    (hD _ _ _ _ _ _ hd (hA t1 (w.at d0) d r5)) hG'
   have h1 : runNT P 1 (crowd gs1 (w.at d0) sl1) t1 = (.next (crowd ((gs1.map (woken P a a' w')).setIfInBounds 0 a') w' sl2), t1 ++ MemOp.ofEvents 0 a.frame.fn a.frame.place es) := by simp only [runNT, r6, hrunT]
   refine ⟨N + (1 + N2), gs', a'', w'', sl'', t', q', ?_, k2.trans (by simp [r2]), k3, k4, k5, k6⟩
   rw [runNT_add, r1]
   show runNT P (1 + N2) (crowd gs1 (w.at d0) sl1) t1 = _
   rw [runNT_add, h1]
   exact k1
  | _ => rw [hgo] at hs; exact hs.elim
end
section
variable (S : Nat → Prop) (W : World) (A : Option Addr) (m k cap n K : Nat) (l : List Int)
def P0 : Pl := ⟨S, W.heap.size + 4, W.heap.size + 2, W.heap.size + 1, K, fun i b => b = W.heap.size ∨ b = W.heap.size + 3 ∨ (∃ ad, A = some ad ∧ b = ad.block) ∨ (i = 0 ∧ b = W.heap.size + 6)⟩
def B1 : World := W.alloc (.cells #[.int .i64 n] 3)
def B2 : World := (B1 W n).alloc (alO (List.replicate n 0))
def B3 : World := (B2 W n).alloc (muO (W.heap.size + 1) n .w0 false)
def B4 (v : Value) : World := (B3 W n).alloc (.cells #[v] 101)
def pMu : Value := .pointer (some ⟨W.heap.size + 2, 0, none⟩)
def B5 : World := (B4 W n (pMu W)).alloc (wgBlock 108 0 0)
def B6 : World := (B5 W n).alloc (oA A m k cap)
def B7 (v : Value) : World := (B6 W A m k cap n).alloc (.cells #[v] 57)
structure HPre : Prop where
 hA : ∀ ad, A = some ad → ad.block < W.heap.size ∧ ¬ S ad.block
 nil : 0 < m → ∃ ad, A = some ad
 el : ∀ q ad, q < m → A = some ad → W.cell? (ad.add q) = some (.int .i64 (l.getD q 0))
 len : l.length = m
 cap : m ≤ cap
 small : m ≤ 1000000000
structure FS (hb : Option Nat) (v : Value) (w : World) : Prop where
 low : ∀ b, b < W.heap.size + 7 → b ≠ W.heap.size + 4 → b ≠ W.heap.size + 2 → b ≠ W.heap.size + 1 → w.heap[b]? = (B7 W A m k cap n (V1 A k cap)).heap[b]?
 own : ∀ b, hb = some b → w.heap[b]? = some (.cells #[v] 57) ∧ W.heap.size + 7 ≤ b
 live : LiveH (P0 S W A K) n w
end
section
variable {S : Nat → Prop} {W : World} {A : Option Addr} {m k cap n K : Nat} {l : List Int} {v v' : Value} {w w₁ : World} {hb : Option Nat}
theorem B1_size : (B1 W n).heap.size = W.heap.size + 1 := heap_push_size _ _
theorem B2_size : (B2 W n).heap.size = W.heap.size + 2 := by unfold B2; rw [heap_push_size, B1_size]
theorem B3_size : (B3 W n).heap.size = W.heap.size + 3 := by unfold B3; rw [heap_push_size, B2_size]
theorem B4_size : (B4 W n v).heap.size = W.heap.size + 4 := by unfold B4; rw [heap_push_size, B3_size]
theorem B5_size : (B5 W n).heap.size = W.heap.size + 5 := by unfold B5; rw [heap_push_size, B4_size]
theorem B6_size : (B6 W A m k cap n).heap.size = W.heap.size + 6 := by unfold B6; rw [heap_push_size, B5_size]
theorem B7_size : (B7 W A m k cap n v).heap.size = W.heap.size + 7 := by unfold B7; rw [heap_push_size, B6_size]
theorem push_new (w : World) (ob : Obj) {b : Nat} (h : w.heap.size = b) : (w.alloc ob).heap[b]? = some ob := by
 subst h
 unfold World.alloc
 exact Array.getElem?_push_size
theorem B1_old {b : Nat} (h : b < W.heap.size) : (B1 W n).heap[b]? = W.heap[b]? := heap_push_old _ _ h
theorem B7_6 {b : Nat} (h : b < W.heap.size + 6) : (B7 W A m k cap n v).heap[b]? = (B6 W A m k cap n).heap[b]? := heap_push_old _ _ (by rw [B6_size]; exact h)
theorem B6_5 {b : Nat} (h : b < W.heap.size + 5) : (B6 W A m k cap n).heap[b]? = (B5 W n).heap[b]? := heap_push_old _ _ (by rw [B5_size]; exact h)
theorem B5_4 {b : Nat} (h : b < W.heap.size + 4) : (B5 W n).heap[b]? = (B4 W n (pMu W)).heap[b]? := heap_push_old _ _ (by rw [B4_size]; exact h)
theorem B4_3 {b : Nat} (h : b < W.heap.size + 3) : (B4 W n v).heap[b]? = (B3 W n).heap[b]? := heap_push_old _ _ (by rw [B3_size]; exact h)
theorem B3_2 {b : Nat} (h : b < W.heap.size + 2) : (B3 W n).heap[b]? = (B2 W n).heap[b]? := heap_push_old _ _ (by rw [B2_size]; exact h)
theorem B2_1 {b : Nat} (h : b < W.heap.size + 1) : (B2 W n).heap[b]? = (B1 W n).heap[b]? := heap_push_old _ _ (by rw [B1_size]; exact h)
theorem B7_1 {b : Nat} (h : b < W.heap.size + 1) : (B7 W A m k cap n v).heap[b]? = (B1 W n).heap[b]? := by
 rw [B7_6 (by omega), B6_5 (by omega), B5_4 (by omega), B4_3 (by omega), B3_2 (by omega), B2_1 h]
theorem B7_old {b : Nat} (h : b < W.heap.size) : (B7 W A m k cap n v).heap[b]? = W.heap[b]? := by rw [B7_1 (by omega), B1_old h]
theorem B7_nb : (B7 W A m k cap n v).heap[W.heap.size]? = some (.cells #[.int .i64 n] 3) := by rw [B7_1 (by omega)]; exact push_new _ _ rfl
theorem B7_al : (B7 W A m k cap n v).heap[W.heap.size + 1]? = some (alO (List.replicate n 0)) := by
 rw [B7_6 (by omega), B6_5 (by omega), B5_4 (by omega), B4_3 (by omega), B3_2 (by omega)]; exact push_new _ _ B1_size
theorem B7_mu : (B7 W A m k cap n v).heap[W.heap.size + 2]? = some (muO (W.heap.size + 1) n .w0 false) := by
 rw [B7_6 (by omega), B6_5 (by omega), B5_4 (by omega), B4_3 (by omega)]; exact push_new _ _ B2_size
theorem B7_cb : (B7 W A m k cap n v).heap[W.heap.size + 3]? = some (.cells #[pMu W] 101) := by
 rw [B7_6 (by omega), B6_5 (by omega), B5_4 (by omega)]; exact push_new _ _ B3_size
theorem B7_wg : (B7 W A m k cap n v).heap[W.heap.size + 4]? = some (wgBlock 108 0 0) := by
 rw [B7_6 (by omega), B6_5 (by omega)]; exact push_new _ _ B4_size
theorem B7_arr : (B7 W A m k cap n v).heap[W.heap.size + 5]? = some (oA A m k cap) := by
 rw [B7_6 (by omega)]; exact push_new _ _ B5_size
theorem B6_arr : (B6 W A m k cap n).heap[W.heap.size + 5]? = some (oA A m k cap) := push_new _ _ B5_size
theorem B7_h1 : (B7 W A m k cap n v).heap[W.heap.size + 6]? = some (.cells #[v] 57) := push_new _ _ B6_size
theorem set_last (X : World) (v v' : Value) (t : TypeId) : (X.alloc (.cells #[v] t)).setCell ⟨X.heap.size, 0, none⟩ v' = X.alloc (.cells #[v'] t) := by
 unfold World.alloc World.setCell
 congr 1
 apply Array.ext
 ·simp
 ·intro i h1 h2
  simp only [Array.getElem_modify, Array.getElem_push]
  by_cases hi : i < X.heap.size
  ·simp [hi, Nat.ne_of_gt hi]
  ·have : i = X.heap.size := by simp at h2; omega
   subst this
   simp
theorem B4_set : (B4 W n v).setCell ⟨W.heap.size + 3, 0, none⟩ v' = B4 W n v' := by
 have := set_last (B3 W n) v v' 101
 rw [B3_size] at this
 exact this
theorem B7_set : (B7 W A m k cap n v).setCell ⟨W.heap.size + 6, 0, none⟩ v' = B7 W A m k cap n v' := by
 have := set_last (B6 W A m k cap n) v v' 57
 rw [B6_size] at this
 exact this
theorem P0_ok (h : HPre S W A m cap l) (hS : ∀ b, S b → b < W.heap.size) (hK : 0 < K) : (P0 S W A K).Ok := by
 refine ⟨fun i b hb => ?_, by show W.heap.size + 4 ≠ W.heap.size + 2; omega, by show W.heap.size + 4 ≠ W.heap.size + 1; omega, by show W.heap.size + 2 ≠ W.heap.size + 1; omega, fun x => ?_, fun x => ?_, fun x => ?_, hK⟩
 ·show b ≠ W.heap.size + 4 ∧ b ≠ W.heap.size + 2 ∧ b ≠ W.heap.size + 1 ∧ ¬ S b
  rcases hb with rfl | rfl | ⟨ad, e, rfl⟩ | ⟨_, rfl⟩
  ·exact ⟨by omega, by omega, by omega, fun x => by have := hS _ x; omega⟩
  ·exact ⟨by omega, by omega, by omega, fun x => by have := hS _ x; omega⟩
  ·obtain ⟨h1, h2⟩ := h.hA ad e
   exact ⟨by omega, by omega, by omega, h2⟩
  ·exact ⟨by omega, by omega, by omega, fun x => by have := hS _ x; omega⟩
 ·have : W.heap.size + 4 < W.heap.size := hS _ x; omega
 ·have : W.heap.size + 2 < W.heap.size := hS _ x; omega
 ·have : W.heap.size + 1 < W.heap.size := hS _ x; omega
theorem P0_geo (h : HPre S W A m cap l) (hS : ∀ b, S b → b < W.heap.size) (hK : 0 < K) : GeoH (P0 S W A K) n (W.heap.size + 7) W.heap.size := by
 refine ⟨P0_ok h hS hK, ?_, ?_, ?_, ?_, ?_, ?_, fun i b hb => ?_, hS⟩
 ·show W.heap.size + 4 < _; omega
 ·show W.heap.size + 2 < _; omega
 ·show W.heap.size + 1 < _; omega
 ·show _ ≤ W.heap.size + 4; omega
 ·show _ ≤ W.heap.size + 2; omega
 ·show _ ≤ W.heap.size + 1; omega
 ·rcases hb with rfl | rfl | ⟨ad, e, rfl⟩ | ⟨_, rfl⟩
  ·omega
  ·omega
  ·have := (h.hA ad e).1; omega
  ·omega
theorem B7_live (d : Nat) : LiveH (P0 S W A K) n ((B7 W A m k cap n v).at d) := ⟨⟨0, 0, B7_wg⟩, ⟨.w0, false, B7_mu⟩, ⟨List.replicate n 0, by simp, B7_al⟩⟩
theorem FS.rely (h : FS S W A m k cap n K hb v w) (r : RMH (P0 S W A K) n (W.heap.size + 7) hb w w₁) : FS S W A m k cap n K hb v w₁ :=
 ⟨fun b h1 h2 h3 h4 => (r.block b h1 h2 h3 h4).trans (h.low b h1 h2 h3 h4), fun b e => ⟨(r.own b e).trans (h.own b e).1, (h.own b e).2⟩, r.live h.live⟩
theorem live_cell (l : LiveH (P0 S W A K) n w) (a : Addr) (x : Value) (ha : a.block = W.heap.size + 4) (hl : Live (W.heap.size + 4) (w.setCell a x)) : LiveH (P0 S W A K) n (w.setCell a x) := by
 have B := aside_setCell w a x
 obtain ⟨_, ⟨wd, mm, e1⟩, ⟨c, hc, e2⟩⟩ := l
 have o2 : (w.setCell a x).heap[W.heap.size + 2]? = w.heap[W.heap.size + 2]? := B.block _ (by rw [ha]; omega)
 have o1 : (w.setCell a x).heap[W.heap.size + 1]? = w.heap[W.heap.size + 1]? := B.block _ (by rw [ha]; omega)
 exact ⟨hl, ⟨wd, mm, show (w.setCell a x).heap[W.heap.size + 2]? = _ from o2.trans e1⟩, ⟨c, hc, show (w.setCell a x).heap[W.heap.size + 1]? = _ from o1.trans e2⟩⟩
theorem FS.cell (h : FS S W A m k cap n K hb v w) (a : Addr) (x : Value) (ha : a.block = W.heap.size + 4) (hl : Live (W.heap.size + 4) (w.setCell a x)) : FS S W A m k cap n K hb v (w.setCell a x) := by
 have B := aside_setCell w a x
 refine ⟨fun b h1 h2 h3 h4 => (B.block b (by rw [ha]; exact h2)).trans (h.low b h1 h2 h3 h4), fun b e => ?_, live_cell h.live a x ha hl⟩
 obtain ⟨h1, h2⟩ := h.own b e
 exact ⟨(B.block b (by rw [ha]; omega)).trans h1, h2⟩
theorem dmh_refl (w : World) (es : Array Event) (h : ∀ e ∈ es, OkS (P0 S W A K) (W.heap.size + 7) hb w.heap.size e) : DMH (P0 S W A K) n (W.heap.size + 7) hb w w es := ⟨rfl, rfl, rfl, rfl, fun _ _ => rfl, h⟩
theorem FS.wgl (h : FS S W A m k cap n K hb v w) : W.heap.size + 4 < w.heap.size := by
 obtain ⟨_, _, e⟩ := h.live.wg
 exact (Array.getElem?_eq_some_iff.1 e).1
theorem FS.rule : MRule (W.heap.size + 4) (RMH (P0 S W A K) n (W.heap.size + 7) hb) (DMH (P0 S W A K) n (W.heap.size + 7) hb) (FS S W A m k cap n K hb v) := by
 refine ⟨⟨fun w w₁ h r => h.rely r, fun w h => dmh_refl w _ (by simp)⟩, fun w h => h.live.wg, fun w x h => h.cell _ _ rfl (live_st h.live.wg _), fun w x h => h.cell _ _ rfl (live_sm h.live.wg _), fun w h => dmh_refl w _ fun e he => ?_, fun w h => dmh_refl w _ fun e he => ?_⟩
 all_goals
  rw [Array.mem_singleton] at he
  subst he
  refine ⟨fun y hy => ?_, ⟨by simp [MemAct.ofEvent], by simp [MemAct.ofEvent]⟩, h.wgl, by simp, by simp⟩
  simp only [MemAct.ofEvent, MemAct.touch?, Option.some.injEq] at hy
  subst hy
  exact .inl ⟨⟨_, rfl, .inl rfl⟩, by simp⟩
theorem oks_rd {ad : Addr} {B : Nat} (h1 : ad.block < W.heap.size + 7) (h2 : ad.block ≠ W.heap.size + 4) (h3 : ad.block ≠ W.heap.size + 2) (h4 : ad.block ≠ W.heap.size + 1) (h5 : ¬ S ad.block) (hB : ad.block < B) : OkS (P0 S W A K) (W.heap.size + 7) hb B ⟨.cell ad, false, false⟩ := by
 refine ⟨fun y hy => ?_, ⟨by simp [MemAct.ofEvent], by simp [MemAct.ofEvent]⟩, hB, by simp, by simp⟩
 simp only [MemAct.ofEvent, MemAct.touch?, Option.some.injEq] at hy
 subst hy
 exact .inr ⟨ad, rfl, .inl ⟨h1, h2, h3, h4, h5, rfl⟩⟩
theorem oks_wr {b : Nat} {x : Bool} {B : Nat} (hB : b < B) : OkS (P0 S W A K) (W.heap.size + 7) (some b) B ⟨.cell ⟨b, 0, none⟩, x, false⟩ := by
 refine ⟨fun y hy => ?_, ⟨by simp [MemAct.ofEvent], by simp [MemAct.ofEvent]⟩, hB, by simp, by simp⟩
 simp only [MemAct.ofEvent, MemAct.touch?, Option.some.injEq] at hy
 subst hy
 exact .inr ⟨_, rfl, .inr rfl⟩
theorem FS.weak (h : FS S W A m k cap n K hb v w) : FS S W A m k cap n K none v' w := ⟨h.low, fun b e => (by cases e), h.live⟩
theorem FS.num (h : FS S W A m k cap n K hb v w) : w.cell? ⟨W.heap.size, 0, none⟩ = some (.int .i64 n) := by
 have := h.low W.heap.size (by omega) (by omega) (by omega) (by omega)
 rw [B7_nb] at this
 simp [World.cell?, this]
theorem FS.cc (h : FS S W A m k cap n K hb v w) : w.cell? ⟨W.heap.size + 3, 0, none⟩ = some (pMu W) := by
 have := h.low (W.heap.size + 3) (by omega) (by omega) (by omega) (by omega)
 rw [B7_cb] at this
 simp [World.cell?, this]
theorem FS.half1 (h : FS S W A m k cap n K hb v w) : w.cell? ⟨W.heap.size + 6, 0, none⟩ = some (V1 A k cap) := by
 have := h.low (W.heap.size + 6) (by omega) (by omega) (by omega) (by omega)
 rw [B7_h1] at this
 simp [World.cell?, this]
theorem FS.arr1 (h : FS S W A m k cap n K hb v w) : w.cell? ⟨W.heap.size + 5, 1, none⟩ = some (V2 A m k cap) := by
 have := h.low (W.heap.size + 5) (by omega) (by omega) (by omega) (by omega)
 rw [B7_arr] at this
 simp [World.cell?, this, oA]
theorem FS.old (h : FS S W A m k cap n K hb v w) {b : Nat} (hb' : b < W.heap.size) : w.heap[b]? = W.heap[b]? := by
 rw [h.low b (by omega) (by omega) (by omega) (by omega), B7_old hb']
theorem FS.mul (h : FS S W A m k cap n K hb v w) : W.heap.size + 6 < w.heap.size := by
 have := h.low (W.heap.size + 6) (by omega) (by omega) (by omega) (by omega)
 rw [B7_h1] at this
 exact (Array.getElem?_eq_some_iff.1 this).1
theorem add_block (a : Addr) (p : Nat) : (a.add p).block = a.block := by unfold Addr.add; split <;> rfl
theorem add_add (a : Addr) (k p : Nat) : (a.add k).add p = a.add (k + p) := by
 unfold Addr.add
 by_cases h1 : k = 0 <;> by_cases h2 : p = 0 <;> simp [h1, h2, Nat.add_assoc]
theorem kh0 (hn : (n : Int) = 1 ∨ (n : Int) = 2 ∨ (n : Int) = 4 ∨ (n : Int) = 8 ∨ (n : Int) = 16) (h : HPre S W A m cap l) (hS : ∀ b, S b → b < W.heap.size) (hK : 0 < K) (hk : k ≤ m) (hr : l.all rightB = true) (f : FS S W A m k cap n K hb v w) : KH (P0 S W A K) n 0 w (W.heap.size + 6) W.heap.size (W.heap.size + 3) A k cap (l.take k) := by
 have hml := f.mul
 refine ⟨P0_ok h hS hK, .inr (.inr (.inr ⟨rfl, rfl⟩)), .inl rfl, .inr (.inl rfl), fun ad e => .inr (.inr (.inl ⟨ad, e, rfl⟩)), fun b hb' => ?_, f.half1, f.num, f.cc, fun q ad hq e => ?_, fun h0 => h.nil (by omega), by simp [h.len]; omega, by have := h.small; omega, fun x hx => ?_, hn⟩
 ·rcases hb' with rfl | rfl | ⟨ad, e, rfl⟩ | ⟨_, rfl⟩
  ·omega
  ·omega
  ·have := (h.hA ad e).1; omega
  ·omega
 ·rw [World.cell?_of_block (f.old (by rw [add_block]; exact (h.hA ad e).1)), h.el q ad (by omega) e]
  simp [List.getD_eq_getElem?_getD, List.getElem?_take, hq]
 ·have := List.all_eq_true.1 hr x (List.mem_of_mem_take hx)
  simpa [rightB] using this
theorem kh1 (hn : (n : Int) = 1 ∨ (n : Int) = 2 ∨ (n : Int) = 4 ∨ (n : Int) = 8 ∨ (n : Int) = 16) (h : HPre S W A m cap l) (hS : ∀ b, S b → b < W.heap.size) (hK : 0 < K) (hk : k ≤ m) (hr : l.all rightB = true) {h2 : Nat} (f : FS S W A m k cap n K (some h2) (V2 A m k cap) w) : KH ((P0 S W A K).x (some h2) 1) n 1 w h2 W.heap.size (W.heap.size + 3) (if cap = k then A else A.map (·.add k)) (m - k) (cap - k) (l.drop k) := by
 have hml := f.mul
 obtain ⟨o1, o2⟩ := f.own h2 rfl
 have hlt := (Array.getElem?_eq_some_iff.1 o1).1
 have A0 := P0_ok h hS hK
 have hA' : ∀ ad, (if cap = k then A else A.map (·.add k)) = some ad → ∃ a, A = some a ∧ a.block = ad.block := fun ad e => by
  split at e
  ·exact ⟨ad, e, rfl⟩
  ·obtain ⟨a, ha, rfl⟩ := Option.map_eq_some_iff.1 e
   exact ⟨a, ha, (add_block _ _).symm⟩
 have e1 : (P0 S W A K).x (some h2) 1 = (P0 S W A K).w (some h2) := rfl
 rw [e1]
 refine ⟨⟨fun i b hb => ?_, A0.wm, A0.wa, A0.ma, A0.sw, A0.sM, A0.sa, A0.k0⟩, .inr ⟨rfl, rfl⟩, .inl (.inl rfl), .inl (.inr (.inl rfl)), fun ad e => ?_, fun b hb' => ?_, by simp [World.cell?, o1, V2], f.num, f.cc, fun q ad hq e => ?_, fun h0 => ?_, by simp [h.len], by have := h.small; omega, fun x hx => ?_, hn⟩
 ·rcases hb with hb | ⟨_, e⟩
  ·exact A0.rb i b hb
  ·simp only [Option.some.injEq] at e
   subst e
   show h2 ≠ W.heap.size + 4 ∧ h2 ≠ W.heap.size + 2 ∧ h2 ≠ W.heap.size + 1 ∧ ¬ S h2
   exact ⟨by omega, by omega, by omega, fun x => by have := hS _ x; omega⟩
 ·obtain ⟨a, ha, hb⟩ := hA' ad e
  exact .inl (.inr (.inr (.inl ⟨a, ha, hb.symm⟩)))
 ·rcases hb' with (rfl | rfl | ⟨ad, e, rfl⟩ | ⟨_, rfl⟩) | ⟨_, e⟩
  ·omega
  ·omega
  ·have := (h.hA ad e).1; omega
  ·omega
  ·simp only [Option.some.injEq] at e; omega
 ·have hc := h.cap
  rw [if_neg (by omega)] at e
  obtain ⟨a, ha, rfl⟩ := Option.map_eq_some_iff.1 e
  rw [add_add, World.cell?_of_block (f.old (by rw [add_block]; exact (h.hA a ha).1)), h.el (k + q) a (by omega) ha]
  simp [List.getD_eq_getElem?_getD]
 ·obtain ⟨a, rfl⟩ := h.nil (by omega)
  split
  ·exact ⟨a, rfl⟩
  ·exact ⟨_, rfl⟩
 ·have := List.all_eq_true.1 hr x (List.mem_of_mem_drop hx)
  simpa [rightB] using this
end
end Go.Proofs.Ytnikfjfcbpeieaa.Hk
end
section
namespace Go.Proofs.Ytnikfjfcbpeieaa.Hk
open Go Go.Conc Go.RowKit Go.Proofs.Ytnikfjfcbpeieaa.Lk
open Go.ConcR (KK wgBlock WgAt stA smA rd wr)
open Go.ConcR.Gen
set_option linter.unusedVariables false
set_option linter.unusedSimpArgs false
noncomputable def L45 : Code := cLp (cB (cR (cLl (cR (cR (cR (cR c45)))))))
noncomputable def r45 : Code := cR (cR (cR (cR (cR c45))))
theorem nm77 : (Try.f77.name == "runtime.NumGoroutine") = false := by kernel_rfl
theorem body73 : Try.f73.body = some c73 := rfl
theorem body77 : Try.f77.body = some c77 := rfl
theorem ix109_0 (b : Nat) (w : World) : (Instr.indexAt 109 (.slice (some ⟨b, 0, none⟩) 2 2) (.int .i64 0)).run Try.prog w = .ok (.pointer (some ⟨b, 0, none⟩)) w ∧ (Instr.indexAt 109 (.slice (some ⟨b, 0, none⟩) 2 2) (.int .i64 0)).events Try.prog w #[] = #[] := by
 constructor
 ·go_simp
  try rfl
 ·simp [go_sem]
theorem ix109_1 (b : Nat) (w : World) : (Instr.indexAt 109 (.slice (some ⟨b, 0, none⟩) 2 2) (.int .i64 1)).run Try.prog w = .ok (.pointer (some ⟨b, 1, none⟩)) w ∧ (Instr.indexAt 109 (.slice (some ⟨b, 0, none⟩) 2 2) (.int .i64 1)).events Try.prog w #[] = #[] := by
 constructor
 ·go_simp
  try rfl
 ·simp [go_sem]
theorem ld_run {t : TypeId} (ht : t = 57 ∨ t = 101) (w : World) {ad : Addr} {u : Value} (hc : w.cell? ad = some u) : (Instr.loadAt t (.pointer (some ad))).run Try.prog w = .ok u w := by
 rcases ht with rfl | rfl <;> go_simp
theorem ld_ev {t : TypeId} (ht : t = 57 ∨ t = 101) (w : World) {ad : Addr} {u : Value} (hc : w.cell? ad = some u) : (Instr.loadAt t (.pointer (some ad))).events Try.prog w #[] = #[⟨.cell ad, false, false⟩] := by
 rcases ht with rfl | rfl <;> simp [go_sem, hc] <;> rfl
theorem st_run (w : World) {ad : Addr} {u : Value} {B : Option Addr} {x y : Nat} (hc : w.cell? ad = some u) (hz : w.frozen? ad = false) : (Instr.storeAt 57 (.pointer (some ad)) (.slice B x y)).run Try.prog w = .ok () (w.setCell ad (.slice B x y)) := by
 go_simp
theorem st_ev (w : World) {ad : Addr} {u : Value} {B : Option Addr} {x y : Nat} (hc : w.cell? ad = some u) (hz : w.frozen? ad = false) : (Instr.storeAt 57 (.pointer (some ad)) (.slice B x y)).events Try.prog w #[] = #[⟨.cell ad, true, false⟩] := by
 simp [go_sem]
 rw [events_store Try.prog w _ _ _ .plain rfl]
 simp [hc, hz]
theorem fa103 (b : Nat) (w : World) : (Instr.fieldAt 103 (.pointer (some ⟨b, 0, none⟩)) 1).run Try.prog w = .ok (.pointer (some ⟨b, 2, none⟩)) w ∧ (Instr.fieldAt 103 (.pointer (some ⟨b, 0, none⟩)) 1).events Try.prog w #[] = #[] := by
 constructor
 ·go_simp
  try rfl
 ·simp [go_sem]
theorem run_mkf (P : Program) (fn : Fn) (first cap : Array Value) (w : World) : (Instr.makeFunc fn first cap).run P w = .ok (.func fn first cap) w := rfl
theorem events_mkf (P : Program) (fn : Fn) (first cap : Array Value) (w : World) (es : Array Event) : (Instr.makeFunc fn first cap).events P w es = es := rfl
section
variable {P : Program} {main : Bool} {R : World → World → Prop} {D : World → World → Array Event → Prop} {Stop : Goroutine → World → Prop} {F : World → Prop} {b : Frame} {cs : List Frame} {N : Nat} {ds : List Deferred} {ρ : Rho} {k : List Item} {ops : Array Oper} {i : Nat} {rest : List Nat} {o : Oper}
theorem GE.mkf {fn : Fn} {ca : Array Operand} (vs : Array Value) (U : Rule R D F) (ho : ops[i]? = some o) (hop : o.op = .makeFunc fn #[] ca) (hw : wantB ops ρ o = some true) (hk : b.kind ≠ .early) (hd : o.dst.all (· < N) = true) (hv : ∀ e : Operand → Value, (∀ x u, ev ρ x = some u → e x = u) → ca.map e = vs)
  (h : GE P main R D Stop F b cs N ds (ρ.put o.dst (.func fn #[] vs)) (.inRegion ops rest :: k)) : GE P main R D Stop F b cs N ds ρ (.inRegion ops (i :: rest) :: k) :=
 GE.val U ho hw hk hd (fun e he w _ => by
  have h1 := hv e he
  constructor
  ·simp [execOp, hop, h1, run_mkf, Result.andThen]
  ·simp [execOp, hop, h1, events_mkf, run_mkf]) h
end
theorem step_leave45 {fr : Frame} {cs : List Frame} {T : Array Value} {todo : List Item} {w : World} (hk : fr.kind = .normal) : stepG Try.prog true (G { (base 45).at ⟨T, []⟩ todo with mode := .returning } (fr :: cs)) w = .go (mkG (fr.finish (.tuple #[T.getD 4 undef, T.getD 5 undef])) cs) w #[] := by
 simp [G, mkG, stepG, unwind, doReturn, results, Frame.at, base, Try.func45, Try.f45, seen, GStep.after, Act.eval]
def halfs (n k : Nat) (l : List Int) (i : Nat) : List Int := bkl n (if i = 0 then l.take k else l.drop k)
section
variable (S : Nat → Prop) (W : World) (A : Option Addr) (m k cap n K : Nat) (fr : Frame) (cs : List Frame)
def BackH (w : World) (g' : Goroutine) (w' : World) : Prop := g' = mkG (fr.finish (.tuple #[.slice (some ⟨W.heap.size + 1, 0, none⟩) n n, .int .i64 0])) cs ∧ IsAt w w'
def DE (w w' : World) (es : Array Event) : Prop := ∀ e ∈ es, EvL (ShB fun b => S b ∨ b = W.heap.size + 4) (W.heap.size + 7) e
def LdH (g : Goroutine) (w : World) : Prop := g.status = .running ∧ FS S W A m k cap n K none undef w ∧ Gs Try.prog true AtRel (DE S W) (BackH W n fr cs w) (IsAt w) g
end
section
variable {S : Nat → Prop} {W : World} {A : Option Addr} {m k cap n K : Nat} {l : List Int} {fr : Frame} {cs : List Frame}
theorem FS.at {hb : Option Nat} {v : Value} {w : World} (h : FS S W A m k cap n K hb v w) (d : Nat) : FS S W A m k cap n K hb v (w.at d) := h.rely (RMH.at w d)
theorem isAt_at {w x : World} {d : Nat} : IsAt (w.at d) x ↔ IsAt w x := ⟨fun ⟨e, h⟩ => ⟨e, h⟩, fun ⟨e, h⟩ => ⟨e, h⟩⟩
theorem LdH.at {g : Goroutine} {w : World} (d : Nat) (h : LdH S W A m k cap n K fr cs g w) : LdH S W A m k cap n K fr cs g (w.at d) := by
 obtain ⟨h1, h2, m1, h3⟩ := h
 refine ⟨h1, h2.at d, m1, fun x hx => ?_⟩
 have e : BackH W n fr cs (w.at d) = BackH W n fr cs w := by funext g' w'; unfold BackH; rw [propext isAt_at]
 rw [e]
 exact h3 x (isAt_at.1 hx)
theorem evL_rd {S' : Nat → Prop} {ad : Addr} {B : Nat} (h1 : ¬ S' ad.block) (h2 : ad.block < B) : EvL (ShB S') B ⟨.cell ad, false, false⟩ := by
 refine ⟨fun y hy hs => ?_, by simp, by simp, h2⟩
 simp only [MemAct.ofEvent, MemAct.touch?, Option.some.injEq] at hy
 subst hy
 obtain ⟨b, e, hb⟩ := hs
 cases e
 exact absurd hb h1
set_option maxRecDepth 100000 in
set_option maxHeartbeats 8000000 in
theorem tail_walk (hS : ∀ b, S b → b < W.heap.size) (hfk : fr.kind = .normal) {w : World} (f : FS S W A m k cap n K none undef w) :
  GE Try.prog true AtRel (DE S W) (BackH W n fr cs w) (IsAt w) (base 45) (fr :: cs) 45 [] [(6, .pointer (some ⟨W.heap.size + 3, 0, none⟩))] [.code (cR r45)] := by
 have U : Rule AtRel (DE S W) (IsAt w) := isAt_rule (fun _ _ _ e he => by simp at he) w
 have hc1 := f.cc
 obtain ⟨wd, mm, hmu⟩ := f.live.mu
 have hc2 : w.cell? ⟨W.heap.size + 2, 2, none⟩ = some (.slice (some ⟨W.heap.size + 1, 0, none⟩) n n) := hmu.cellAl
 simp only [pMu] at hc1
 simp only [L45, r45, c45, Try.f45, Option.getD_some, cR, cB, cLp, cLl]
 repeat (first
  | refine GE.seq U ?_
  | refine GE.region _ U rfl ?_)
 refine GE.rd (v := .pointer (some ⟨W.heap.size + 2, 0, none⟩)) U rfl rfl rfl (by k_ne) rfl rfl (fun x ⟨d, hx⟩ => ld_run (.inr rfl) x (by rw [hx]; exact hc1)) (fun x ⟨d, hx⟩ es hes e he => ?_) ?_
 ·have := hes e he
  rw [ld_ev (.inr rfl) x (by rw [hx]; exact hc1)] at this
  simp at this
  subst this
  exact evL_rd (by rintro (h | h); (· have : W.heap.size + 3 < W.heap.size := hS _ h; omega); simp at h) (by show W.heap.size + 3 < _; omega)
 repeat (first
  | refine GE.fa (v := .pointer (some ⟨W.heap.size + 2, 2, none⟩)) U rfl rfl rfl (by k_ne) rfl rfl (fun w _ => (fa103 _ w).1) (fun w _ => (fa103 _ w).2) ?_
  | refine GE.nil U rfl rfl rfl (by k_ne) rfl rfl ?_)
 refine GE.rd (v := .slice (some ⟨W.heap.size + 1, 0, none⟩) n n) U rfl rfl rfl (by k_ne) rfl rfl (fun x ⟨d, hx⟩ => ld_run (.inl rfl) x (by rw [hx]; exact hc2)) (fun x ⟨d, hx⟩ es hes e he => ?_) ?_
 ·have := hes e he
  rw [ld_ev (.inl rfl) x (by rw [hx]; exact hc2)] at this
  simp at this
  subst this
  exact evL_rd (by rintro (h | h); (· have : W.heap.size + 2 < W.heap.size := hS _ h; omega); simp at h) (by show W.heap.size + 2 < _; omega)
 repeat (first
  | refine GE.as U rfl rfl rfl (by k_ne) rfl rfl ?_
  | refine GE.regionEnd U ?_)
 intro T hT hl
 refine Gs.ret U (Gs.go (g' := mkG (fr.finish (.tuple #[.slice (some ⟨W.heap.size + 1, 0, none⟩) n n, .int .i64 0])) cs) U rfl (fun x hx => ?_) (Gs.stop U fun x hx => ⟨rfl, hx⟩))
 have h4 := hl 4 _ rfl
 have h5 := hl 5 _ rfl
 refine (step_leave45 hfk).trans ?_
 simp [h4, h5]
set_option maxRecDepth 100000 in
set_option maxHeartbeats 8000000 in
theorem last_walk (hS : ∀ b, S b → b < W.heap.size) (hfk : fr.kind = .normal) :
  GE Try.prog true (RMH (P0 S W A K) n (W.heap.size + 7) none) (DMH (P0 S W A K) n (W.heap.size + 7) none) (WKd (RMH (P0 S W A K) n (W.heap.size + 7) none) (DMH (P0 S W A K) n (W.heap.size + 7) none) (W.heap.size + 4) (LdH S W A m k cap n K fr cs)) (FS S W A m k cap n K none undef) (base 45) (fr :: cs) 45 [] [(6, .pointer (some ⟨W.heap.size + 3, 0, none⟩)), (7, .pointer (some ⟨W.heap.size + 4, 0, none⟩)), (31, .slice (some ⟨W.heap.size + 5, 0, none⟩) 2 2), (32, .int .i64 2), (33, .int .i64 1)] [.inBlock 2, .code (cR (cR (cR L45))), .inLoop L45, .inBlock 1, .code r45] := by
 have V := FS.rule (S := S) (W := W) (A := A) (m := m) (k := k) (cap := cap) (n := n) (K := K) (hb := none) (v := undef)
 have U := V.toRule
 have ht := fun w f => tail_walk (cs := cs) (w := w) (A := A) (m := m) (k := k) (cap := cap) (n := n) (K := K) hS hfk f
 simp only [L45, r45, c45, Try.f45, Option.getD_some, cR, cB, cLp, cLl] at ht ⊢
 repeat (first
  | refine GE.mv U rfl rfl rfl (by k_ne) rfl rfl ?_
  | refine GE.bin U rfl rfl rfl (by k_ne) rfl rfl rfl rfl ?_
  | refine GE.regionEnd U ?_
  | refine GE.seq U ?_
  | refine GE.region _ U rfl ?_
  | (refine GE.cond false U rfl ?_; simp only [if_true, if_false, Bool.false_eq_true, ↓reduceIte])
  | refine GE.inBlock U ?_
  | refine GE.inLoop U ?_
  | refine GE.exit U rfl ?_)
 refine GE.call #[.pointer (some ⟨W.heap.size + 4, 0, none⟩)] U rfl rfl rfl (by k_ne) Try.func77 nm77 body77 (fun e he => by simp [he (.tmp 7) _ rfl]) fun T1 hT1 hl1 => wait_walkE V ?_
 refine GE.put (N := 45) rfl hT1 hl1 ?_
 refine GE.regionEnd U ?_
 intro T hT hl
 exact Gs.stop U fun w hw => ⟨rfl, hw, ht w hw T hT (hl.sub (ρ' := [(6, .pointer (some ⟨W.heap.size + 3, 0, none⟩))]) ⟨rfl, trivial⟩)⟩
set_option maxRecDepth 100000 in
set_option maxHeartbeats 8000000 in
theorem snd_walk (hn : (n : Int) = 1 ∨ (n : Int) = 2 ∨ (n : Int) = 4 ∨ (n : Int) = 8 ∨ (n : Int) = 16) (h : HPre S W A m cap l) (hS : ∀ b, S b → b < W.heap.size) (hK : 0 < K) (hk : k ≤ m) (hr : l.all rightB = true) (hfk : fr.kind = .normal) (h2 : Nat) :
  GE Try.prog true (RMH (P0 S W A K) n (W.heap.size + 7) (some h2)) (DMH (P0 S W A K) n (W.heap.size + 7) (some h2)) (MKd (RMH (P0 S W A K) n (W.heap.size + 7) (some h2)) (DMH (P0 S W A K) n (W.heap.size + 7) (some h2)) (W.heap.size + 4) (MGoH (P0 S W A K) n (halfs n k l) 1 (some h2) (Sc4 (P0 S W A K) n (W.heap.size + 7) (LdH S W A m k cap n K fr cs)))) (FS S W A m k cap n K (some h2) (V2 A m k cap)) (base 45) (fr :: cs) 45 [] [(3, .pointer (some ⟨W.heap.size, 0, none⟩)), (6, .pointer (some ⟨W.heap.size + 3, 0, none⟩)), (7, .pointer (some ⟨W.heap.size + 4, 0, none⟩)), (9, .pointer (some ⟨h2, 0, none⟩)), (31, .slice (some ⟨W.heap.size + 5, 0, none⟩) 2 2), (32, .int .i64 2), (33, .int .i64 1)] [.code (cR (cB (cLl (cR (cR L45))))), .inBlock 2, .code (cR (cR (cR L45))), .inLoop L45, .inBlock 1, .code r45] := by
 have V := FS.rule (S := S) (W := W) (A := A) (m := m) (k := k) (cap := cap) (n := n) (K := K) (hb := some h2) (v := V2 A m k cap)
 have U := V.toRule
 have hlast := last_walk (S := S) (W := W) (A := A) (m := m) (k := k) (cap := cap) (n := n) (K := K) (cs := cs) hS hfk
 simp only [L45, r45, c45, Try.f45, Option.getD_some, cR, cB, cLp, cLl] at hlast ⊢
 repeat (first
  | refine GE.seq U ?_
  | refine GE.region _ U rfl ?_)
 refine GE.call #[.pointer (some ⟨W.heap.size + 4, 0, none⟩), .int .i64 1] U rfl rfl rfl (by k_ne) Try.func73 nm73 body73 (fun e he => by simp [he (.tmp 7) _ rfl, he (.const (.int .i64 1)) _ rfl]) fun T1 hT1 hl1 => add_walkE V ?_
 refine GE.put (N := 45) rfl hT1 hl1 ?_
 repeat (first
  | refine GE.regionEnd U ?_
  | refine GE.region _ U rfl ?_)
 refine GE.mkf #[.pointer (some ⟨W.heap.size + 4, 0, none⟩), .pointer (some ⟨h2, 0, none⟩), .pointer (some ⟨W.heap.size, 0, none⟩), .pointer (some ⟨W.heap.size + 3, 0, none⟩)] U rfl rfl rfl (by k_ne) rfl (fun e he => by simp [he (.tmp 7) _ rfl, he (.tmp 9) _ rfl, he (.tmp 3) _ rfl, he (.tmp 6) _ rfl]) ?_
 intro T hT hl
 refine Gs.stop U fun w hw => ⟨rfl, _, _, (stepG_spawn (d := call74 (W.heap.size + 4) h2 W.heap.size (W.heap.size + 3)) (w' := w) rfl (hl.want rfl) (by k_ne) (by have h38 := hl 38 _ rfl; simp [go_sem, call74, Act.eval, h38]) rfl).trans (by rw [listed_nil (by have h38 := hl 38 _ rfl; simp [go_sem, Act.eval, h38])]), rfl, fun q => ?_, ?_⟩
 ·exact worker_start (p := (P0 S W A K).x (some h2) 1) (kh1 hn h hS hK hk hr hw) q ⟨liveX.2 hw.live, fun _ _ => rfl⟩
 ·refine Gs.runs (F := FS S W A m k cap n K none undef) ?_ hw.weak
  have U := (FS.rule (S := S) (W := W) (A := A) (m := m) (k := k) (cap := cap) (n := n) (K := K) (hb := none) (v := undef)).toRule
  refine GE.put (N := 45) (v := undef) rfl hT hl ?_
  refine GE.regionEnd U ?_
  exact GE.to [(6, .pointer (some ⟨W.heap.size + 3, 0, none⟩)), (7, .pointer (some ⟨W.heap.size + 4, 0, none⟩)), (31, .slice (some ⟨W.heap.size + 5, 0, none⟩) 2 2), (32, .int .i64 2), (33, .int .i64 1)] ⟨rfl, rfl, rfl, rfl, rfl, trivial⟩ hlast
theorem FS.alloc {w : World} (f : FS S W A m k cap n K none undef w) (v : Value) : FS S W A m k cap n K (some w.heap.size) v (w.alloc (.cells #[v] 57)) := by
 have hml := f.mul
 refine ⟨fun b h1 h2 h3 h4 => (heap_push_old w _ (by omega)).trans (f.low b h1 h2 h3 h4), fun b e => ?_, f.live.push _⟩
 simp only [Option.some.injEq] at e
 subst e
 exact ⟨push_new _ _ rfl, by omega⟩
theorem FS.set {w : World} {b : Nat} {v : Value} (f : FS S W A m k cap n K (some b) v w) (v' : Value) : FS S W A m k cap n K (some b) v' (w.setCell ⟨b, 0, none⟩ v') ∧ w.cell? ⟨b, 0, none⟩ = some v ∧ w.frozen? ⟨b, 0, none⟩ = false := by
 obtain ⟨o1, o2⟩ := f.own b rfl
 have B := aside_setCell w ⟨b, 0, none⟩ v'
 refine ⟨⟨fun x h1 h2 h3 h4 => (B.block x (by show x ≠ b; omega)).trans (f.low x h1 h2 h3 h4), fun x e => ?_, ?_⟩, by simp [World.cell?, o1], by simp [World.frozen?, o1]⟩
 ·simp only [Option.some.injEq] at e
  subst e
  obtain ⟨hlt, he⟩ := Array.getElem?_eq_some_iff.1 o1
  refine ⟨?_, o2⟩
  unfold World.setCell
  simp [hlt, Array.getElem_modify, he]
 ·obtain ⟨⟨st, sm, e0⟩, ⟨wd, mm, e1⟩, ⟨c, hc, e2⟩⟩ := f.live
  have q4 : (w.setCell ⟨b, 0, none⟩ v').heap[W.heap.size + 4]? = w.heap[W.heap.size + 4]? := B.block _ (by show W.heap.size + 4 ≠ b; omega)
  have q2 : (w.setCell ⟨b, 0, none⟩ v').heap[W.heap.size + 2]? = w.heap[W.heap.size + 2]? := B.block _ (by show W.heap.size + 2 ≠ b; omega)
  have q1 : (w.setCell ⟨b, 0, none⟩ v').heap[W.heap.size + 1]? = w.heap[W.heap.size + 1]? := B.block _ (by show W.heap.size + 1 ≠ b; omega)
  exact ⟨⟨st, sm, show (w.setCell ⟨b, 0, none⟩ v').heap[W.heap.size + 4]? = _ from q4.trans e0⟩, ⟨wd, mm, show (w.setCell ⟨b, 0, none⟩ v').heap[W.heap.size + 2]? = _ from q2.trans e1⟩, ⟨c, hc, show (w.setCell ⟨b, 0, none⟩ v').heap[W.heap.size + 1]? = _ from q1.trans e2⟩⟩
theorem alloc57 (ρ : Operand → Value) {o : Oper} (ho : o.op = .alloc 57) (w : World) : (execOp ρ o).run Try.prog w = .ok (.value (.pointer (some ⟨w.heap.size, 0, none⟩))) (w.alloc (.cells #[.slice none 0 0] 57)) ∧ (execOp ρ o).events Try.prog w #[] = #[] := by
 constructor
 ·simp only [execOp, ho]
  go_simp
  try rfl
 ·simp [execOp, ho, go_sem]
set_option maxRecDepth 100000 in
set_option maxHeartbeats 8000000 in
theorem fst_walk (hn : (n : Int) = 1 ∨ (n : Int) = 2 ∨ (n : Int) = 4 ∨ (n : Int) = 8 ∨ (n : Int) = 16) (h : HPre S W A m cap l) (hS : ∀ b, S b → b < W.heap.size) (hK : 0 < K) (hk : k ≤ m) (hr : l.all rightB = true) (hfk : fr.kind = .normal) :
  GE Try.prog true (RMH (P0 S W A K) n (W.heap.size + 7) none) (DMH (P0 S W A K) n (W.heap.size + 7) none) (MAl (P0 S W A K) n (W.heap.size + 7) (halfs n k l) (LdH S W A m k cap n K fr cs)) (FS S W A m k cap n K none undef) (base 45) (fr :: cs) 45 [] [(3, .pointer (some ⟨W.heap.size, 0, none⟩)), (6, .pointer (some ⟨W.heap.size + 3, 0, none⟩)), (7, .pointer (some ⟨W.heap.size + 4, 0, none⟩)), (31, .slice (some ⟨W.heap.size + 5, 0, none⟩) 2 2), (32, .int .i64 2), (33, .int .i64 0)] [.inBlock 2, .code (cR (cR (cR L45))), .inLoop L45, .inBlock 1, .code r45] := by
 have V := FS.rule (S := S) (W := W) (A := A) (m := m) (k := k) (cap := cap) (n := n) (K := K) (hb := none) (v := undef)
 have U := V.toRule
 have hsnd := fun h2 => snd_walk (S := S) (W := W) (A := A) (m := m) (k := k) (cap := cap) (n := n) (K := K) (cs := cs) hn h hS hK hk hr hfk h2
 simp only [L45, r45, c45, Try.f45, Option.getD_some, cR, cB, cLp, cLl] at hsnd ⊢
 repeat (first
  | (refine GE.ia (v := .pointer (some ⟨W.heap.size + 5, 1, none⟩)) U rfl rfl rfl (by k_ne) rfl rfl rfl (fun w _ => (ix109_1 _ w).1) (fun w _ => (ix109_1 _ w).2) ?_)
  | refine GE.mv U rfl rfl rfl (by k_ne) rfl rfl ?_
  | refine GE.bin U rfl rfl rfl (by k_ne) rfl rfl rfl rfl ?_
  | refine GE.regionEnd U ?_
  | refine GE.seq U ?_
  | refine GE.region _ U rfl ?_
  | (refine GE.cond true U rfl ?_; simp only [if_true, if_false, Bool.false_eq_true, ↓reduceIte])
  | refine GE.skip U ?_
  | refine GE.block U ?_
  | refine GE.inBlock U ?_
  | refine GE.inLoop U ?_)
 refine GE.rd (v := V2 A m k cap) U rfl rfl rfl (by k_ne) rfl rfl (fun w hw => ld_run (.inl rfl) w hw.arr1) (fun w hw es hes => dmh_refl w es fun e he => ?_) ?_
 ·have := hes e he
  rw [ld_ev (.inl rfl) w hw.arr1] at this
  simp at this
  subst this
  have hml := hw.mul
  exact oks_rd (by show W.heap.size + 5 < _; omega) (by show W.heap.size + 5 ≠ _; omega) (by show W.heap.size + 5 ≠ _; omega) (by show W.heap.size + 5 ≠ _; omega) (fun x => by have : W.heap.size + 5 < W.heap.size := hS _ x; omega) (by show W.heap.size + 5 < _; omega)
 intro T hT hl
 refine Gs.stop U fun w hw => ⟨rfl, _, _, _, (stepG_value rfl (hl.want rfl) (by k_ne) (alloc57 _ rfl w).1).trans (by rw [listed_nil (alloc57 _ rfl w).2]), by simp, ?_⟩
 refine Gs.runs (F := FS S W A m k cap n K (some w.heap.size) (.slice none 0 0)) ?_ (hw.alloc _)
 have U := (FS.rule (S := S) (W := W) (A := A) (m := m) (k := k) (cap := cap) (n := n) (K := K) (hb := some w.heap.size) (v := .slice none 0 0)).toRule
 have U2 := (FS.rule (S := S) (W := W) (A := A) (m := m) (k := k) (cap := cap) (n := n) (K := K) (hb := some w.heap.size) (v := V2 A m k cap)).toRule
 have hs2 := hsnd w.heap.size
 generalize w.heap.size = h2 at hs2 U U2 ⊢
 refine GE.put (N := 45) rfl hT hl ?_
 refine GE.st (F' := FS S W A m k cap n K (some h2) (V2 A m k cap)) (u := .pointer (some ⟨h2, 0, none⟩)) (v := V2 A m k cap) (fun w => w.setCell ⟨h2, 0, none⟩ (V2 A m k cap)) U rfl rfl rfl (by k_ne) rfl rfl rfl (fun x hx => ?_) (fun x hx es hes => ⟨?_, (hx.set _).1⟩) ?_
 ·obtain ⟨_, c1, c2⟩ := hx.set (V2 A m k cap)
  exact st_run x c1 c2
 ·obtain ⟨o1, o2⟩ := hx.own h2 rfl
  have hlt := (Array.getElem?_eq_some_iff.1 o1).1
  have B := aside_setCell x ⟨h2, 0, none⟩ (V2 A m k cap)
  refine ⟨B.tape, B.output, B.os, B.size, fun b hb => B.block b (fun e => hb (by rw [e])), fun e he => ?_⟩
  have hx3 := hes e he
  obtain ⟨_, c1, c2⟩ := hx.set (V2 A m k cap)
  unfold V2 at hx3
  rw [st_ev x c1 c2] at hx3
  simp at hx3
  subst hx3
  exact oks_wr (by rw [B.size]; exact hlt)
 refine GE.regionEnd U2 ?_
 exact GE.to [(3, .pointer (some ⟨W.heap.size, 0, none⟩)), (6, .pointer (some ⟨W.heap.size + 3, 0, none⟩)), (7, .pointer (some ⟨W.heap.size + 4, 0, none⟩)), (9, .pointer (some ⟨h2, 0, none⟩)), (31, .slice (some ⟨W.heap.size + 5, 0, none⟩) 2 2), (32, .int .i64 2), (33, .int .i64 1)] ⟨rfl, rfl, rfl, rfl, rfl, rfl, rfl, trivial⟩ hs2
set_option maxRecDepth 100000 in
set_option maxHeartbeats 8000000 in
theorem crew_walk (hn : (n : Int) = 1 ∨ (n : Int) = 2 ∨ (n : Int) = 4 ∨ (n : Int) = 8 ∨ (n : Int) = 16) (h : HPre S W A m cap l) (hS : ∀ b, S b → b < W.heap.size) (hK : 0 < K) (hk : k ≤ m) (hr : l.all rightB = true) (hfk : fr.kind = .normal) :
  GE Try.prog true (RMH (P0 S W A K) n (W.heap.size + 7) none) (DMH (P0 S W A K) n (W.heap.size + 7) none) (MKd (RMH (P0 S W A K) n (W.heap.size + 7) none) (DMH (P0 S W A K) n (W.heap.size + 7) none) (W.heap.size + 4) (MGoH (P0 S W A K) n (halfs n k l) 0 none (Nxt (P0 S W A K) n (W.heap.size + 7) (halfs n k l) (LdH S W A m k cap n K fr cs) 1))) (FS S W A m k cap n K none undef) (base 45) (fr :: cs) 45 [] [(3, .pointer (some ⟨W.heap.size, 0, none⟩)), (6, .pointer (some ⟨W.heap.size + 3, 0, none⟩)), (7, .pointer (some ⟨W.heap.size + 4, 0, none⟩)), (9, .pointer (some ⟨W.heap.size + 6, 0, none⟩)), (31, .slice (some ⟨W.heap.size + 5, 0, none⟩) 2 2), (32, .int .i64 2), (33, .int .i64 0)] [.code (cR (cB (cLl (cR (cR L45))))), .inBlock 2, .code (cR (cR (cR L45))), .inLoop L45, .inBlock 1, .code r45] := by
 have V := FS.rule (S := S) (W := W) (A := A) (m := m) (k := k) (cap := cap) (n := n) (K := K) (hb := none) (v := undef)
 have U := V.toRule
 have hfst := fst_walk (S := S) (W := W) (A := A) (m := m) (k := k) (cap := cap) (n := n) (K := K) (cs := cs) hn h hS hK hk hr hfk
 simp only [L45, r45, c45, Try.f45, Option.getD_some, cR, cB, cLp, cLl] at hfst ⊢
 repeat (first
  | refine GE.seq U ?_
  | refine GE.region _ U rfl ?_)
 refine GE.call #[.pointer (some ⟨W.heap.size + 4, 0, none⟩), .int .i64 1] U rfl rfl rfl (by k_ne) Try.func73 nm73 body73 (fun e he => by simp [he (.tmp 7) _ rfl, he (.const (.int .i64 1)) _ rfl]) fun T1 hT1 hl1 => add_walkE V ?_
 refine GE.put (N := 45) rfl hT1 hl1 ?_
 repeat (first
  | refine GE.regionEnd U ?_
  | refine GE.region _ U rfl ?_)
 refine GE.mkf #[.pointer (some ⟨W.heap.size + 4, 0, none⟩), .pointer (some ⟨W.heap.size + 6, 0, none⟩), .pointer (some ⟨W.heap.size, 0, none⟩), .pointer (some ⟨W.heap.size + 3, 0, none⟩)] U rfl rfl rfl (by k_ne) rfl (fun e he => by simp [he (.tmp 7) _ rfl, he (.tmp 9) _ rfl, he (.tmp 3) _ rfl, he (.tmp 6) _ rfl]) ?_
 intro T hT hl
 refine Gs.stop U fun w hw => ⟨rfl, _, _, (stepG_spawn (d := call74 (W.heap.size + 4) (W.heap.size + 6) W.heap.size (W.heap.size + 3)) (w' := w) rfl (hl.want rfl) (by k_ne) (by have h38 := hl 38 _ rfl; simp [go_sem, call74, Act.eval, h38]) rfl).trans (by rw [listed_nil (by have h38 := hl 38 _ rfl; simp [go_sem, Act.eval, h38])]), rfl, fun q => ?_, ?_⟩
 ·exact worker_start (p := P0 S W A K) (kh0 hn h hS hK hk hr hw) q ⟨hw.live, fun _ _ => rfl⟩
 ·show Sc2 (P0 S W A K) n (W.heap.size + 7) (halfs n k l) (LdH S W A m k cap n K fr cs) _ w
  refine Gs.runs (F := FS S W A m k cap n K none undef) ?_ hw
  refine GE.put (N := 45) (v := undef) rfl hT hl ?_
  refine GE.regionEnd U ?_
  exact GE.to [(3, .pointer (some ⟨W.heap.size, 0, none⟩)), (6, .pointer (some ⟨W.heap.size + 3, 0, none⟩)), (7, .pointer (some ⟨W.heap.size + 4, 0, none⟩)), (31, .slice (some ⟨W.heap.size + 5, 0, none⟩) 2 2), (32, .int .i64 2), (33, .int .i64 0)] ⟨rfl, rfl, rfl, rfl, rfl, rfl, trivial⟩ hfst
end
end Go.Proofs.Ytnikfjfcbpeieaa.Hk
end
section
namespace Go.Proofs.Ytnikfjfcbpeieaa.Hk
open Go Go.Conc Go.RowKit Go.Proofs.Ytnikfjfcbpeieaa.Lk
open Go.ConcR (KK wgBlock WgAt stA smA rd wr)
open Go.ConcR.Gen
set_option linter.unusedVariables false
set_option linter.unusedSimpArgs false
theorem box3 (ρ : Operand → Value) {o : Oper} {x : Operand} {z : Int} (ho : o.op = .box 3 x) (hx : ρ x = .int .i64 z) (w : World) : (execOp ρ o).run Try.prog w = .ok (.value (.pointer (some ⟨w.heap.size, 0, none⟩))) (w.alloc (.cells #[.int .i64 z] 3)) ∧ (execOp ρ o).events Try.prog w #[] = #[] := by
 constructor
 ·simp only [execOp, ho, hx]
  go_simp
  try rfl
 ·simp [execOp, ho, hx, go_sem]
theorem mk57 {n : Nat} (hn : (n : Int) = 1 ∨ (n : Int) = 2 ∨ (n : Int) = 4 ∨ (n : Int) = 8 ∨ (n : Int) = 16) (w : World) : (Instr.makeSlice 57 (.int .i64 n) (.int .i64 n)).run Try.prog w = .ok (.slice (some ⟨w.heap.size, 0, none⟩) n n) (w.alloc (alO (List.replicate n 0))) ∧ (Instr.makeSlice 57 (.int .i64 n) (.int .i64 n)).events Try.prog w #[] = #[] := by
 have hn' : n = 1 ∨ n = 2 ∨ n = 4 ∨ n = 8 ∨ n = 16 := by omega
 rcases hn' with rfl | rfl | rfl | rfl | rfl <;> exact ⟨by kernel_rfl, by kernel_rfl⟩
theorem bld103 (b n : Nat) (w : World) : (Instr.build 103 #[(1, .slice (some ⟨b, 0, none⟩) n n)]).run Try.prog w = .ok (.agg #[.int .i32 0, .int .u32 0, .slice (some ⟨b, 0, none⟩) n n]) w ∧ (Instr.build 103 #[(1, .slice (some ⟨b, 0, none⟩) n n)]).events Try.prog w #[] = #[] := by
 exact ⟨by kernel_rfl, by kernel_rfl⟩
theorem box103 (ρ : Operand → Value) {o : Oper} {x : Operand} {b n : Nat} (ho : o.op = .box 103 x) (hx : ρ x = .agg #[.int .i32 0, .int .u32 0, .slice (some ⟨b, 0, none⟩) n n]) (w : World) : (execOp ρ o).run Try.prog w = .ok (.value (.pointer (some ⟨w.heap.size, 0, none⟩))) (w.alloc (muO b n .w0 false)) ∧ (execOp ρ o).events Try.prog w #[] = #[] := by
 constructor
 ·simp only [execOp, ho, hx]
  unfold muO
  go_simp
  try rfl
 ·simp [execOp, ho, hx, go_sem]
theorem alloc101 (ρ : Operand → Value) {o : Oper} (ho : o.op = .alloc 101) (w : World) : (execOp ρ o).run Try.prog w = .ok (.value (.pointer (some ⟨w.heap.size, 0, none⟩))) (w.alloc (.cells #[.pointer none] 101)) ∧ (execOp ρ o).events Try.prog w #[] = #[] := by
 constructor
 ·simp only [execOp, ho]
  go_simp
  try rfl
 ·simp [execOp, ho, go_sem]
theorem alloc108 (ρ : Operand → Value) {o : Oper} (ho : o.op = .alloc 108) (w : World) : (execOp ρ o).run Try.prog w = .ok (.value (.pointer (some ⟨w.heap.size, 0, none⟩))) (w.alloc (wgBlock 108 0 0)) ∧ (execOp ρ o).events Try.prog w #[] = #[] := by
 constructor
 ·simp only [execOp, ho]
  unfold wgBlock
  go_simp
  try rfl
 ·simp [execOp, ho, go_sem]
theorem st101_run (w : World) {ad : Addr} {u : Value} {B : Option Addr} (hc : w.cell? ad = some u) (hz : w.frozen? ad = false) : (Instr.storeAt 101 (.pointer (some ad)) (.pointer B)).run Try.prog w = .ok () (w.setCell ad (.pointer B)) := by
 go_simp
theorem st101_ev (w : World) {ad : Addr} {u : Value} {B : Option Addr} (hc : w.cell? ad = some u) (hz : w.frozen? ad = false) : (Instr.storeAt 101 (.pointer (some ad)) (.pointer B)).events Try.prog w #[] = #[⟨.cell ad, true, false⟩] := by
 simp [go_sem]
 rw [events_store Try.prog w _ _ _ .plain rfl]
 simp [hc, hz]
theorem numB_cases {z : Int} (h : numB z = true) : ∃ n : Nat, z = n ∧ ((n : Int) = 1 ∨ (n : Int) = 2 ∨ (n : Int) = 4 ∨ (n : Int) = 8 ∨ (n : Int) = 16) := by
 have h1 : 1 ≤ z ∧ z ≤ 16 := by
  unfold numB at h
  simp at h
  exact h.1
 refine ⟨z.toNat, by omega, ?_⟩
 have : z = 1 ∨ z = 2 ∨ z = 3 ∨ z = 4 ∨ z = 5 ∨ z = 6 ∨ z = 7 ∨ z = 8 ∨ z = 9 ∨ z = 10 ∨ z = 11 ∨ z = 12 ∨ z = 13 ∨ z = 14 ∨ z = 15 ∨ z = 16 := by omega
 rcases this with rfl | rfl | rfl | rfl | rfl | rfl | rfl | rfl | rfl | rfl | rfl | rfl | rfl | rfl | rfl | rfl <;> first | (exfalso; revert h; decide) | simp
section
variable (S : Nat → Prop) (W : World) (A : Option Addr) (m k cap K : Nat) (z : Int) (l : List Int) (fr : Frame) (cs : List Frame)
def E1 : World := W.alloc (.cells #[.int .i64 z] 3)
def DA (w w' : World) (es : Array Event) : Prop := w.heap.size ≤ w'.heap.size ∧ ∀ e ∈ es, EvL (ShB S) w'.heap.size e ∧ Fresh (P0 S W A K) (.ofEvent e)
inductive StopH (g : Goroutine) (w : World) : Prop
 | num : numB z = false → g = mkG (fr.finish (.tuple #[.slice none 0 0, .int .i64 2])) cs → IsAt (E1 W z) w → StopH g w
 | arg : numB z = true → l.all rightB = false → g = mkG (fr.finish (.tuple #[.slice none 0 0, .int .i64 1])) cs → IsAt (E1 W z) w → StopH g w
 | crew (n : Nat) : z = n → ((n : Int) = 1 ∨ (n : Int) = 2 ∨ (n : Int) = 4 ∨ (n : Int) = 8 ∨ (n : Int) = 16) → l.all rightB = true → IsAt (B7 W A m k cap n (V1 A k cap)) w →
   Gs Try.prog true (RMH (P0 S W A K) n (W.heap.size + 7) none) (DMH (P0 S W A K) n (W.heap.size + 7) none) (MKd (RMH (P0 S W A K) n (W.heap.size + 7) none) (DMH (P0 S W A K) n (W.heap.size + 7) none) (W.heap.size + 4) (MGoH (P0 S W A K) n (halfs n k l) 0 none (Nxt (P0 S W A K) n (W.heap.size + 7) (halfs n k l) (LdH S W A m k cap n K fr cs) 1))) (FS S W A m k cap n K none undef) g → StopH g w
end
section
variable {S : Nat → Prop} {W : World} {A : Option Addr} {m k cap K : Nat} {z : Int} {l : List Int} {fr : Frame} {cs : List Frame}
theorem szx {X x : World} {d : Nat} (h : x = X.at d) : x.heap.size = X.heap.size := by rw [h]; rfl
theorem DA.nil (w w' : World) (h : w.heap.size ≤ w'.heap.size) : DA S W A K w w' #[] := ⟨h, fun e he => by simp at he⟩
theorem fresh_cell {b off : Nat} {x : Bool} (h : b ≠ W.heap.size + 1) : Fresh (P0 S W A K) (.ofEvent ⟨.cell ⟨b, off, none⟩, x, false⟩) := by
 refine ⟨fun y hy ⟨ad, e, hb⟩ => ?_, by simp [MemAct.ofEvent], by simp [MemAct.ofEvent]⟩
 simp only [MemAct.ofEvent, MemAct.touch?, Option.some.injEq] at hy
 subst hy
 cases e
 exact h hb
theorem evL_wr {S' : Nat → Prop} {ad : Addr} {x : Bool} {B : Nat} (h1 : ¬ S' ad.block) (h2 : ad.block < B) : EvL (ShB S') B ⟨.cell ad, x, false⟩ := by
 refine ⟨fun y hy hs => ?_, by simp, by simp, h2⟩
 simp only [MemAct.ofEvent, MemAct.touch?, Option.some.injEq] at hy
 subst hy
 obtain ⟨b, e, hb⟩ := hs
 cases e
 exact absurd hb h1
section
variable {P : Program} {main : Bool} {D : World → World → Array Event → Prop} {Stop : Goroutine → World → Prop} {X : World} {ob : Obj} {b : Frame} {N : Nat} {ds : List Deferred} {ρ : Rho} {kk : List Item} {ops : Array Oper} {i : Nat} {rest : List Nat} {o : Oper} {v : Value}
theorem GE.al (hD : ∀ w w' : World, w.heap.size ≤ w'.heap.size → D w w' #[]) (ho : ops[i]? = some o) (hw : wantB ops ρ o = some true) (hk : b.kind ≠ .early) (hd : o.dst.all (· < N) = true)
  (hr : ∀ e : Operand → Value, (∀ x u, ev ρ x = some u → e x = u) → ∀ d, (execOp e o).run P (X.at d) = .ok (.value v) ((X.at d).alloc ob) ∧ (execOp e o).events P (X.at d) #[] = #[])
  (h : GE P main AtRel D Stop (IsAt (X.alloc ob)) b cs N ds (ρ.put o.dst v) (.inRegion ops rest :: kk)) : GE P main AtRel D Stop (IsAt X) b cs N ds ρ (.inRegion ops (i :: rest) :: kk) :=
 GE.turn (isAt_rule hD X) hd (fun T hT hl w ⟨d, hX⟩ => by
  subst hX
  obtain ⟨r1, r2⟩ := hr _ (fun x u e => hl.ev (ds := ds) e) d
  exact ⟨_, _, stepG_value ho (hl.want hw) hk r1, by rw [listed_nil r2]; exact hD _ _ (Nat.le_of_lt (Nat.lt_of_lt_of_eq (Nat.lt_succ_self _) (heap_push_size _ _).symm)), d, rfl⟩) h
end
set_option maxRecDepth 100000 in
set_option maxHeartbeats 8000000 in
theorem gs_reg7 (hD : ∀ w w' : World, w.heap.size ≤ w'.heap.size → DA S W A K w w' #[]) {n : Nat} (hk : m / 2 = k) (hn : m ≤ cap) (hs : m ≤ 1000000000) {ρ : Rho} (hρ : ρ.get 0 = some (.slice A m cap)) {kk : List Item} {Stop : Goroutine → World → Prop}
  (h : GE Try.prog true AtRel (DA S W A K) Stop (IsAt (B6 W A m k cap n)) (base 45) cs 45 [] ((put7 A m k cap (W.heap.size + 5)).foldl (fun ρ x => Rho.put ρ (some x.1) x.2) ρ) kk) :
  GE Try.prog true AtRel (DA S W A K) Stop (IsAt (B5 W n)) (base 45) cs 45 [] ρ (.code (.region 7 ops7 true) :: kk) := fun T hT hl => by
 have put : ∀ (xs : List (Nat × Value)) (ρ : Rho) (a : Act), (∀ x ∈ xs, x.1 < 45) → a.defers = [] → a.tmps.size = 45 → Looks ρ a.tmps → (xs.foldl (fun a x => a.put (some x.1) x.2) a).defers = [] ∧ (xs.foldl (fun a x => a.put (some x.1) x.2) a).tmps.size = 45 ∧ Looks (xs.foldl (fun ρ x => Rho.put ρ (some x.1) x.2) ρ) (xs.foldl (fun a x => a.put (some x.1) x.2) a).tmps := by
  intro xs
  induction xs with
  | nil => exact fun ρ a _ h1 h2 h3 => ⟨h1, h2, h3⟩
  | cons x xs ih =>
   intro ρ a hx h1 h2 h3
   obtain ⟨T, ds⟩ := a
   exact ih _ _ (fun y hy => hx y (by simp [hy])) (by show (Act.put ⟨T, ds⟩ (some x.1) x.2).defers = []; rw [put_act]; exact h1) (by show (Act.put ⟨T, ds⟩ (some x.1) x.2).tmps.size = 45; rw [put_size]; exact h2) (h3.put (by rw [show T.size = 45 from h2]; simpa using hx x (by simp)))
 obtain ⟨q1, q2, q3⟩ := put (put7 A m k cap (W.heap.size + 5)) ρ ⟨T, []⟩ (by simp [put7]) rfl hT hl
 generalize ea : (put7 A m k cap (W.heap.size + 5)).foldl (fun (a : Act) x => a.put (some x.1) x.2) ⟨T, []⟩ = aF at q1 q2 q3
 obtain ⟨Tf, ds⟩ := aF
 have q1 : ds = [] := q1
 subst q1
 obtain ⟨M, hM⟩ := h Tf q2 q3
 refine ⟨M + (ops7.size + 1 + 1), fun w ⟨d, e⟩ => ?_⟩
 subst e
 refine wpC_goes (Q := fun e a w' => e = .normal ∧ a = ⟨Tf, []⟩ ∧ IsAt (B6 W A m k cap n) w') (reg7 hD hk hn hs _ T hT (hl 0 _ hρ) ?_ ?_) rfl (by k_ne) ?_
 ·rintro a x y ⟨_, h1, d', h2⟩ ⟨d2, h3⟩
  exact ⟨rfl, h1, d2, by rw [h3, h2]; rfl⟩
 ·intro d'
  refine ⟨rfl, ?_, d', rfl⟩
  have e : ((B5 W n).at d).heap.size = W.heap.size + 5 := B5_size
  rw [e]
  exact ea
 ·rintro e a w' ⟨rfl, rfl, hw⟩
  exact hM w' hw
set_option maxRecDepth 100000 in
set_option maxHeartbeats 8000000 in
theorem setup_walk {n : Nat} (hn : (n : Int) = 1 ∨ (n : Int) = 2 ∨ (n : Int) = 4 ∨ (n : Int) = 8 ∨ (n : Int) = 16) (h : HPre S W A m cap l) (hS : ∀ b, S b → b < W.heap.size) (hK : 0 < K) (hk : m / 2 = k) (hr : l.all rightB = true) (hfk : fr.kind = .normal) :
  GE Try.prog true AtRel (DA S W A K) (StopH S W A m k cap K n l fr cs) (IsAt (B1 W n)) (base 45) (fr :: cs) 45 [] [(0, .slice A m cap), (3, .pointer (some ⟨W.heap.size, 0, none⟩))] [.code (cR (cR c45))] := by
 have hcrew := crew_walk (S := S) (W := W) (A := A) (m := m) (k := k) (cap := cap) (n := n) (K := K) (cs := cs) hn h hS hK (by omega) hr hfk
 have hops : ops7 = ops7 := rfl
 simp only [L45, r45, c45, Try.f45, Option.getD_some, cR, cB, cLp, cLl] at hcrew
 simp only [c45, Try.f45, Option.getD_some, cR]
 have U : Rule AtRel (DA S W A K) (IsAt (B1 W n)) := isAt_rule DA.nil _
 have hcn : (B1 W n).cell? ⟨W.heap.size, 0, none⟩ = some (.int .i64 n) := by
  have : (B1 W n).heap[W.heap.size]? = some (.cells #[.int .i64 n] 3) := push_new _ _ rfl
  simp [World.cell?, this]
 repeat (first
  | refine GE.seq U ?_
  | refine GE.region _ U rfl ?_)
 refine GE.rd (v := .int .i64 n) U rfl rfl rfl (by k_ne) rfl rfl (fun x ⟨d, hx⟩ => run_loadI x (by rw [hx]; exact hcn)) (fun x ⟨d, hx⟩ es hes => ⟨Nat.le_refl _, fun e he => ?_⟩) ?_
 ·have := hes e he
  rw [ev_loadI x (by rw [hx]; exact hcn)] at this
  simp at this
  subst this
  exact ⟨evL_wr (fun x => by have : W.heap.size < W.heap.size := hS _ x; omega) (by show W.heap.size < x.heap.size; rw [szx hx, B1_size]; omega), fresh_cell (by omega)⟩
 refine GE.al (v := .slice (some ⟨W.heap.size + 1, 0, none⟩) n n) (ob := alO (List.replicate n 0)) DA.nil rfl rfl (by k_ne) rfl (fun e he d => ?_) ?_
 ·have h17 := he (.tmp 17) _ rfl
  obtain ⟨r1, r2⟩ := mk57 hn ((B1 W n).at d)
  have e1 : ((B1 W n).at d).heap.size = W.heap.size + 1 := B1_size
  rw [e1] at r1
  constructor
  ·simp [execOp, h17, r1, Result.andThen]
  ·simp [execOp, h17, r1, r2, Result.evThen]
 have U2 : Rule AtRel (DA S W A K) (IsAt (B2 W n)) := isAt_rule DA.nil _
 refine GE.val (F := IsAt (B2 W n)) (v := .agg #[.int .i32 0, .int .u32 0, .slice (some ⟨W.heap.size + 1, 0, none⟩) n n]) U2 rfl rfl (by k_ne) rfl (fun e he w _ => ?_) ?_
 ·have h18 := he (.tmp 18) _ rfl
  obtain ⟨r1, r2⟩ := bld103 (W.heap.size + 1) n w
  constructor
  ·simp [execOp, h18, r1, Result.andThen]
  ·simp [execOp, h18, r1, r2, Result.evThen]
 refine GE.al (v := pMu W) (X := B2 W n) (ob := muO (W.heap.size + 1) n .w0 false) DA.nil rfl rfl (by k_ne) rfl (fun e he d => ?_) ?_
 ·have r := fun (o : Oper) (ho : o.op = .box 103 (.tmp 19)) => box103 e ho (he (.tmp 19) _ rfl) ((B2 W n).at d)
  simp only [show ((B2 W n).at d).heap.size = W.heap.size + 2 from B2_size] at r
  exact r _ rfl
 refine GE.al (v := .pointer (some ⟨W.heap.size + 3, 0, none⟩)) (X := B3 W n) (ob := .cells #[.pointer none] 101) DA.nil rfl rfl (by k_ne) rfl (fun e he d => ?_) ?_
 ·have r := fun (o : Oper) (ho : o.op = .alloc 101) => alloc101 e ho ((B3 W n).at d)
  simp only [show ((B3 W n).at d).heap.size = W.heap.size + 3 from B3_size] at r
  exact r _ rfl
 have U4 : Rule AtRel (DA S W A K) (IsAt (B4 W n (.pointer none))) := isAt_rule DA.nil _
 have hc4 : (B4 W n (.pointer none)).heap[W.heap.size + 3]? = some (.cells #[.pointer none] 101) := push_new _ _ B3_size
 refine GE.st (F := IsAt (B4 W n (.pointer none))) (F' := IsAt (B4 W n (pMu W))) (u := .pointer (some ⟨W.heap.size + 3, 0, none⟩)) (v := pMu W) (fun w => w.setCell ⟨W.heap.size + 3, 0, none⟩ (pMu W)) U4 rfl rfl rfl (by k_ne) rfl rfl rfl (fun x ⟨d, hx⟩ => ?_) (fun x ⟨d, hx⟩ es hes => ⟨⟨Nat.le_of_eq (aside_setCell _ _ _).size.symm, fun e he => ?_⟩, d, ?_⟩) ?_
 ·subst hx
  exact st101_run _ (by simp only [World.cell?, World.at, hc4]; rfl) (by simp only [World.frozen?, World.at, hc4]; rfl)
 ·subst hx
  have hx3 := hes e he
  unfold pMu at hx3
  rw [st101_ev _ (by simp only [World.cell?, World.at, hc4]; rfl) (by simp only [World.frozen?, World.at, hc4]; rfl)] at hx3
  simp at hx3
  subst hx3
  exact ⟨evL_wr (fun x => by have : W.heap.size + 3 < W.heap.size := hS _ x; omega) (by show W.heap.size + 3 < (((B4 W n (.pointer none)).at d).setCell _ _).heap.size; rw [(aside_setCell _ _ _).size, szx (X := B4 W n (.pointer none)) rfl, B4_size]; omega), fresh_cell (by omega)⟩
 ·subst hx
  show ((B4 W n (.pointer none)).setCell ⟨W.heap.size + 3, 0, none⟩ (pMu W)).at d = _
  rw [B4_set]
 have U : Rule AtRel (DA S W A K) (IsAt (B4 W n (pMu W))) := isAt_rule DA.nil _
 repeat (first
  | refine GE.regionEnd U ?_
  | refine GE.seq U ?_
  | refine GE.region _ U rfl ?_)
 refine GE.al (v := .pointer (some ⟨W.heap.size + 4, 0, none⟩)) (X := B4 W n (pMu W)) (ob := wgBlock 108 0 0) DA.nil rfl rfl (by k_ne) rfl (fun e he d => ?_) ?_
 ·have r := fun (o : Oper) (ho : o.op = .alloc 108) => alloc108 e ho ((B4 W n (pMu W)).at d)
  simp only [show ((B4 W n (pMu W)).at d).heap.size = W.heap.size + 4 from B4_size] at r
  exact r _ rfl
 have U : Rule AtRel (DA S W A K) (IsAt (B5 W n)) := isAt_rule DA.nil _
 refine GE.regionEnd U ?_
 refine GE.seq U ?_
 refine GE.seq U ?_
 refine GE.to [(0, .slice A m cap), (3, .pointer (some ⟨W.heap.size, 0, none⟩)), (6, .pointer (some ⟨W.heap.size + 3, 0, none⟩)), (7, .pointer (some ⟨W.heap.size + 4, 0, none⟩))] ⟨rfl, rfl, rfl, rfl, trivial⟩ ?_
 refine gs_reg7 DA.nil hk h.cap h.small rfl ?_
 have U : Rule AtRel (DA S W A K) (IsAt (B6 W A m k cap n)) := isAt_rule DA.nil _
 simp only [put7, List.foldl_cons, List.foldl_nil]
 have hca : (B6 W A m k cap n).cell? ⟨W.heap.size + 5, 0, none⟩ = some (V1 A k cap) := by simp [World.cell?, B6_arr, oA]
 repeat (first
  | refine GE.ia (v := .pointer (some ⟨W.heap.size + 5, 0, none⟩)) U rfl rfl rfl (by k_ne) rfl rfl rfl (fun w _ => (ix109_0 _ w).1) (fun w _ => (ix109_0 _ w).2) ?_
  | refine GE.bin U rfl rfl rfl (by k_ne) rfl rfl rfl rfl ?_
  | refine GE.regionEnd U ?_
  | refine GE.seq U ?_
  | refine GE.region _ U rfl ?_
  | (refine GE.cond true U rfl ?_; simp only [if_true, if_false, Bool.false_eq_true, ↓reduceIte])
  | refine GE.skip U ?_
  | refine GE.block U ?_
  | refine GE.loop U ?_)
 refine GE.rd (v := V1 A k cap) U rfl rfl rfl (by k_ne) rfl rfl (fun x ⟨d, hx⟩ => ld_run (.inl rfl) x (by rw [hx]; exact hca)) (fun x ⟨d, hx⟩ es hes => ⟨Nat.le_refl _, fun e he => ?_⟩) ?_
 ·have := hes e he
  rw [ld_ev (.inl rfl) x (by rw [hx]; exact hca)] at this
  simp at this
  subst this
  exact ⟨evL_wr (fun x => by have : W.heap.size + 5 < W.heap.size := hS _ x; omega) (by show W.heap.size + 5 < x.heap.size; rw [szx hx, B6_size]; omega), fresh_cell (by omega)⟩
 refine GE.al (v := .pointer (some ⟨W.heap.size + 6, 0, none⟩)) (X := B6 W A m k cap n) (ob := .cells #[.slice none 0 0] 57) DA.nil rfl rfl (by k_ne) rfl (fun e he d => ?_) ?_
 ·have r := fun (o : Oper) (ho : o.op = .alloc 57) => alloc57 e ho ((B6 W A m k cap n).at d)
  simp only [show ((B6 W A m k cap n).at d).heap.size = W.heap.size + 6 from B6_size] at r
  exact r _ rfl
 have U7 : Rule AtRel (DA S W A K) (IsAt (B7 W A m k cap n (.slice none 0 0))) := isAt_rule DA.nil _
 have hc7 : (B7 W A m k cap n (.slice none 0 0)).heap[W.heap.size + 6]? = some (.cells #[.slice none 0 0] 57) := B7_h1
 refine GE.st (F := IsAt (B7 W A m k cap n (.slice none 0 0))) (F' := IsAt (B7 W A m k cap n (V1 A k cap))) (u := .pointer (some ⟨W.heap.size + 6, 0, none⟩)) (v := V1 A k cap) (fun w => w.setCell ⟨W.heap.size + 6, 0, none⟩ (V1 A k cap)) U7 rfl rfl rfl (by k_ne) rfl rfl rfl (fun x ⟨d, hx⟩ => ?_) (fun x ⟨d, hx⟩ es hes => ⟨⟨Nat.le_of_eq (aside_setCell _ _ _).size.symm, fun e he => ?_⟩, d, ?_⟩) ?_
 ·subst hx
  exact st_run _ (by simp only [World.cell?, World.at, hc7]; rfl) (by simp only [World.frozen?, World.at, hc7]; rfl)
 ·subst hx
  have hx3 := hes e he
  unfold V1 at hx3
  rw [st_ev _ (by simp only [World.cell?, World.at, hc7]; rfl) (by simp only [World.frozen?, World.at, hc7]; rfl)] at hx3
  simp at hx3
  subst hx3
  exact ⟨evL_wr (fun x => by have : W.heap.size + 6 < W.heap.size := hS _ x; omega) (by show W.heap.size + 6 < (((B7 W A m k cap n (.slice none 0 0)).at d).setCell _ _).heap.size; rw [(aside_setCell _ _ _).size, szx (X := B7 W A m k cap n (.slice none 0 0)) rfl, B7_size]; omega), fresh_cell (by omega)⟩
 ·subst hx
  show ((B7 W A m k cap n (.slice none 0 0)).setCell ⟨W.heap.size + 6, 0, none⟩ (V1 A k cap)).at d = _
  rw [B7_set]
 have U : Rule AtRel (DA S W A K) (IsAt (B7 W A m k cap n (V1 A k cap))) := isAt_rule DA.nil _
 refine GE.regionEnd U ?_
 refine GE.to [(3, .pointer (some ⟨W.heap.size, 0, none⟩)), (6, .pointer (some ⟨W.heap.size + 3, 0, none⟩)), (7, .pointer (some ⟨W.heap.size + 4, 0, none⟩)), (9, .pointer (some ⟨W.heap.size + 6, 0, none⟩)), (31, .slice (some ⟨W.heap.size + 5, 0, none⟩) 2 2), (32, .int .i64 2), (33, .int .i64 0)] ⟨rfl, rfl, rfl, rfl, rfl, rfl, rfl, trivial⟩ ?_
 intro T hT hl
 exact Gs.stop U fun w hw => .crew n rfl hn hr hw (hcrew T hT hl)
set_option maxRecDepth 100000 in
set_option maxHeartbeats 8000000 in
theorem alone_walk (h : HPre S W A m cap l) (hS : ∀ b, S b → b < W.heap.size) (hK : 0 < K) (hk : m / 2 = k) (hfk : fr.kind = .normal) :
  Gs Try.prog true AtRel (DA S W A K) (StopH S W A m k cap K z l fr cs) (IsAt W) (G ((base 45).at ⟨#[.slice A m cap, .int .i64 z] ++ Array.replicate 43 undef, []⟩ [.code c45]) (fr :: cs)) := by
 refine (?_ : GE Try.prog true AtRel (DA S W A K) (StopH S W A m k cap K z l fr cs) (IsAt W) (base 45) (fr :: cs) 45 [] [(0, .slice A m cap), (1, .int .i64 z)] [.code c45]) _ (by simp) (looks2 _ _ _)
 have hset := fun (n : Nat) hn hr => setup_walk (S := S) (W := W) (A := A) (m := m) (k := k) (cap := cap) (n := n) (K := K) (cs := cs) hn h hS hK hk hr hfk
 simp only [c45, Try.f45, Option.getD_some, cR] at hset ⊢
 have U : Rule AtRel (DA S W A K) (IsAt W) := isAt_rule DA.nil _
 repeat (first
  | refine GE.seq U ?_
  | refine GE.region _ U rfl ?_)
 refine GE.al (v := .pointer (some ⟨W.heap.size, 0, none⟩)) (X := W) (ob := .cells #[.int .i64 z] 3) DA.nil rfl rfl (by k_ne) rfl (fun e he d => box3 e rfl (he (.tmp 1) _ rfl) (W.at d)) ?_
 have U : Rule AtRel (DA S W A K) (IsAt (E1 W z)) := isAt_rule DA.nil _
 change GE Try.prog true AtRel (DA S W A K) (StopH S W A m k cap K z l fr cs) (IsAt (E1 W z)) (base 45) (fr :: cs) 45 [] _ _
 have hz : (E1 W z).heap[W.heap.size]? = some (.cells #[.int .i64 z] 3) := push_new _ _ rfl
 have hcn : (E1 W z).cell? ⟨W.heap.size, 0, none⟩ = some (.int .i64 z) := by simp [World.cell?, hz]
 repeat (first
  | refine GE.as U rfl rfl rfl (by k_ne) rfl rfl ?_
  | refine GE.regionEnd U ?_
  | refine GE.seq U ?_
  | refine GE.region _ U rfl ?_
  | refine GE.block U ?_)
 refine GE.rd (v := .int .i64 z) U rfl rfl rfl (by k_ne) rfl rfl (fun x ⟨d, hx⟩ => run_loadI x (by rw [hx]; exact hcn)) (fun x ⟨d, hx⟩ es hes => ⟨Nat.le_refl _, fun e he => ?_⟩) ?_
 ·have := hes e he
  rw [ev_loadI x (by rw [hx]; exact hcn)] at this
  simp at this
  subst this
  exact ⟨evL_wr (fun x => by have : W.heap.size < W.heap.size := hS _ x; omega) (by show W.heap.size < x.heap.size; rw [szx hx]; exact Nat.lt_of_lt_of_le (Nat.lt_succ_self _) (Nat.le_of_eq (heap_push_size W _).symm)), fresh_cell (by omega)⟩
 refine GE.call #[.int .i64 z] U rfl rfl rfl (by k_ne) Try.func70 nm70 body70 (fun e he => by simp [he (.tmp 11) _ rfl]) fun T1 hT1 hl1 => number_walk U ?_
 refine GE.put (N := 45) rfl hT1 hl1 ?_
 cases hnb : numB z
 ·repeat (first
   | refine GE.as U rfl rfl rfl (by k_ne) rfl rfl ?_
   | refine GE.regionEnd U ?_
   | refine GE.seq U ?_
   | refine GE.region _ U rfl ?_
   | (refine GE.cond true U rfl ?_; simp only [if_true, if_false, Bool.false_eq_true, ↓reduceIte])
   | refine GE.not U rfl rfl rfl (by k_ne) rfl rfl ?_)
  intro T hT hl
  refine Gs.ret U (Gs.go (g' := mkG (fr.finish (.tuple #[.slice none 0 0, .int .i64 2])) cs) U rfl (fun x hx => ?_) (Gs.stop U fun x hx => .num hnb rfl hx))
  have h4 := hl 4 _ rfl
  have h5 := hl 5 _ rfl
  refine (step_leave45 hfk).trans ?_
  simp [h4, h5]
 ·obtain ⟨n, rfl, hn⟩ := numB_cases hnb
  repeat (first
   | refine GE.mv U rfl rfl rfl (by k_ne) rfl rfl ?_
   | refine GE.as U rfl rfl rfl (by k_ne) rfl rfl ?_
   | refine GE.regionEnd U ?_
   | refine GE.seq U ?_
   | refine GE.region _ U rfl ?_
   | (refine GE.cond false U rfl ?_; simp only [if_true, if_false, Bool.false_eq_true, ↓reduceIte])
   | refine GE.not U rfl rfl rfl (by k_ne) rfl rfl ?_)
  refine GE.call #[.slice A m cap, .func (.func 72) #[] #[]] U rfl rfl rfl (by k_ne) Try.func71 nm71 body71 (fun e he => by simp [he (.tmp 15) _ rfl, he (.func 72) _ rfl]) fun T2 hT2 hl2 => ?_
  refine contains_walk (X := E1 W n) (v := l) DA.nil h.small h.len (fun q ad hq e => ?_) h.nil (fun q ad d hq e es hes => ⟨Nat.le_refl _, fun x hx => ?_⟩) ?_
  ·rw [World.cell?_of_block (show (E1 W n).heap[(ad.add q).block]? = W.heap[(ad.add q).block]? from heap_push_old _ _ (by rw [add_block]; exact (h.hA ad e).1))]
   exact h.el q ad hq e
  ·obtain ⟨h1, h2⟩ := h.hA ad e
   rw [hes x hx]
   refine ⟨evL_wr (by rw [add_block]; exact h2) (by rw [add_block, szx (X := E1 W n) rfl]; exact Nat.lt_of_lt_of_le (Nat.lt_succ_of_lt h1) (Nat.le_of_eq (heap_push_size W _).symm)), fun y hy ⟨ad', e', hb⟩ => ?_, by simp [MemAct.ofEvent], by simp [MemAct.ofEvent]⟩
   simp only [MemAct.ofEvent, MemAct.touch?, Option.some.injEq] at hy
   subst hy
   cases e'
   rw [add_block] at hb
   have hb : ad.block = W.heap.size + 1 := hb
   omega
  refine GE.put (N := 45) rfl hT2 hl2 ?_
  cases hr : l.all rightB
  ·repeat (first
    | refine GE.as U rfl rfl rfl (by k_ne) rfl rfl ?_
    | refine GE.regionEnd U ?_
    | refine GE.seq U ?_
    | refine GE.region _ U rfl ?_
    | (refine GE.cond true U rfl ?_; simp only [if_true, if_false, Bool.false_eq_true, ↓reduceIte]))
   intro T hT hl
   refine Gs.ret U (Gs.go (g' := mkG (fr.finish (.tuple #[.slice none 0 0, .int .i64 1])) cs) U rfl (fun x hx => ?_) (Gs.stop U fun x hx => .arg hnb hr rfl hx))
   have h4 := hl 4 _ rfl
   have h5 := hl 5 _ rfl
   refine (step_leave45 hfk).trans ?_
   simp [h4, h5]
  ·repeat (first
    | refine GE.as U rfl rfl rfl (by k_ne) rfl rfl ?_
    | refine GE.regionEnd U ?_
    | (refine GE.cond false U rfl ?_; simp only [if_true, if_false, Bool.false_eq_true, ↓reduceIte])
    | refine GE.skip U ?_
    | refine GE.inBlock U ?_)
   exact GE.to [(0, .slice A m cap), (3, .pointer (some ⟨W.heap.size, 0, none⟩))] ⟨rfl, rfl, trivial⟩ (hset n hn hr)
end
end Go.Proofs.Ytnikfjfcbpeieaa.Hk
end
section
namespace Go.Proofs.Ytnikfjfcbpeieaa.Hk
open Go Go.Conc Go.RowKit Go.Proofs.Ytnikfjfcbpeieaa.Lk
open Go.ConcN (sumTo upd sumTo_upd upd_ne upd_same)
open Go.ConcR (KK wgBlock WgAt stA smA rd wr)
set_option linter.unusedVariables false
set_option linter.unusedSimpArgs false
section
variable {S : Nat → Prop} {W : World} {A : Option Addr} {m k cap n K : Nat} {z : Int} {l : List Int} {fr : Frame} {cs : List Frame} {w : World}
structure ForeH (S : Nat → Prop) (W : World) (A : Option Addr) (K : Nat) (w : World) (t : Trace) : Prop where
 past : Past (ShB S) w.heap.size t
 fresh : ∀ op ∈ t, Fresh (P0 S W A K) op.act
theorem fresh_mute {e : Event} (h : e.mute = true) : Fresh (P0 S W A K) (.ofEvent e) := by
 refine ⟨fun y hy => (by rw [touch_mute h] at hy; cases hy), fun he => ?_, fun he => ?_⟩ <;> (obtain ⟨loc, wr, sy⟩ := e; cases loc <;> simp_all [Event.mute, MemAct.ofEvent])
theorem fresh_low {x : MemAct} (h : x.low W.heap.size) : Fresh (P0 S W A K) x := by
 refine ⟨fun y hy ⟨ad, e, hb⟩ => ?_, fun e => ?_, fun e => ?_⟩
 ·have hb : ad.block = W.heap.size + 1 := hb
  have : ad.block < W.heap.size := by
   cases x with
   | access ev =>
    obtain ⟨loc, wr, sy⟩ := ev
    cases loc <;> simp [MemAct.touch?] at hy <;> (try (subst hy; simp at e)) <;> (try (subst e; exact h))
   | mark m =>
    cases m <;> simp [MemAct.touch?] at hy <;> (subst hy; simp at e; subst e; exact h)
   | _ => simp [MemAct.touch?] at hy
  omega
 ·subst e
  have : W.heap.size + 4 < W.heap.size := h
  omega
 ·subst e
  have : W.heap.size + 2 < W.heap.size := h
  omega
theorem ForeH.at (t : Trace) (w : World) (d : Nat) (h : ForeH S W A K w t) : ForeH S W A K (w.at d) t := ⟨h.past, h.fresh⟩
theorem ForeH.mute (t : Trace) (w : World) (g : Nat) (fn : FuncId) (pos : String) (es : Array Event) (hg : g ≠ 0) (hm : ∀ e ∈ es, e.mute = true) (h : ForeH S W A K w t) : ForeH S W A K w (t ++ MemOp.ofEvents g fn pos es) :=
 ⟨h.past.mute hg hm, fun op hop => (Array.mem_append.1 hop).elim (h.fresh op) fun hu => by obtain ⟨e, he, rfl⟩ := Go.Conc.mem_ofEvents hu; exact fresh_mute (hm e he)⟩
theorem ForeH.own (t : Trace) (fn : FuncId) (pos : String) (w w' : World) (es : Array Event) (hd : DA S W A K w w' es) (h : ForeH S W A K w t) : ForeH S W A K w' (t ++ MemOp.ofEvents 0 fn pos es) :=
 ⟨(h.past.mono hd.1).own fun e he => (hd.2 e he).1, fun op hop => (Array.mem_append.1 hop).elim (h.fresh op) fun hu => by obtain ⟨e, he, rfl⟩ := Go.Conc.mem_ofEvents hu; exact (hd.2 e he).2⟩
theorem body45 : Try.f45.body = some c45 := rfl
theorem enter45 (fr : Frame) (cs : List Frame) : mkG (Frame.enter Try.prog 45 #[.slice A m cap, .int .i64 z] .normal) (fr :: cs) = G ((base 45).at ⟨#[.slice A m cap, .int .i64 z] ++ Array.replicate 43 undef, []⟩ [.code c45]) (fr :: cs) := by
 simp [mkG, G, Frame.enter, Frame.at, base, Try.func45, body45, Try.ntmps45]
theorem alft_fresh (l : List Int) : alft (dFresh l) = l.length := by
 unfold alft dFresh
 by_cases h : l = []
 ·simp [h]
 ·simp [h, Ph.made]
theorem crit_fresh (l : List Int) : (dFresh l).q.crit = false := by
 unfold dFresh
 by_cases h : l = [] <;> simp [h, Wp.crit]
theorem st_fresh (l : List Int) : (dFresh l).q.st = .N := by
 unfold dFresh
 by_cases h : l = [] <;> simp [h, Wp.st, Hk.st]
theorem B7_kp (d : Nat) (v : Value) : KpH W.heap.size W ((B7 W A m k cap n v).at d) := ⟨rfl, .refl _, rfl, by show _ ≤ (B7 W A m k cap n v).heap.size; rw [B7_size]; omega, fun b hb => B7_old hb⟩
theorem P0w_ok (h : (P0 S W A K).Ok) : ((P0 S W A K).w none).Ok := ⟨fun i b hb => hb.elim (h.rb i b) fun x => (by cases x.2), h.wm, h.wa, h.ma, h.sw, h.sM, h.sa, h.k0⟩
theorem spread_company {gs : Array Goroutine} {sl : Option (Nat × Nat)} {t : Trace} {q : Nat → Nat} (h : HPre S W A m cap l) (hS : ∀ b, S b → b < W.heap.size) (hfk : fr.kind = .normal)
  (h0 : gs[0]? = some (mkG (Frame.enter Try.prog 45 #[.slice A m cap, .int .i64 z] .normal) (fr :: cs))) (hL : Leavers Try.prog t gs q) (hP : Past (ShB S) W.heap.size t) :
  ∃ (N : Nat) (gs1 : Array Goroutine) (w1 : World) (sl1 : Option (Nat × Nat)) (t1 : Trace) (q1 : Nat → Nat) (v : Value),
   runNT Try.prog N (crowd gs W sl) t = (.next (crowd gs1 w1 sl1), t1) ∧ gs1[0]? = some (mkG (fr.finish v) cs) ∧ Leavers Try.prog t1 gs1 q1 ∧
   KpH W.heap.size W w1 ∧
   ((Past (ShB S) w1.heap.size t1 ∧ numB z = false ∧ v = .tuple #[.slice none 0 0, .int .i64 2] ∧ w1.heap.size = W.heap.size + 1) ∨
    (Past (ShB S) w1.heap.size t1 ∧ numB z = true ∧ l.all rightB = false ∧ v = .tuple #[.slice none 0 0, .int .i64 1] ∧ w1.heap.size = W.heap.size + 1) ∨
    (Past (ShB fun b => S b ∨ b = W.heap.size + 4) w1.heap.size t1 ∧ ∃ n : Nat, z = n ∧ numB z = true ∧ l.all rightB = true ∧ v = .tuple #[.slice (some ⟨W.heap.size + 1, 0, none⟩) n n, .int .i64 0] ∧ w1.heap.size = W.heap.size + 8 + m ∧
      w1.heap[W.heap.size + 1]? = some (alO ((bkl n l).foldl inc (List.replicate n 0))))) := by
 have hK : 0 < gs.size := (Array.getElem?_eq_some_iff.1 h0).1
 rw [enter45] at h0
 obtain ⟨n1, hgo⟩ := alone_walk (K := gs.size) (cs := cs) (z := z) h hS hK rfl hfk
 obtain ⟨N1, gs1, a1, w1, sl1, t1, q1, r1, r2, r3, r4, r5, r6⟩ := walkI (I := ForeH S W A gs.size) ForeH.at ForeH.mute ForeH.own n1 gs _ W sl t q h0 hL ⟨hP, fun op hop => fresh_low (hP.seen op hop)⟩ (hgo W ⟨W.drawn, rfl⟩)
 have early : ∀ (r : Goroutine) (d : Nat), w1 = (E1 W z).at d → w1.heap.size = W.heap.size + 1 ∧ KpH W.heap.size W w1 := fun r d e => by
  subst e
  have e1 : ((E1 W z).at d).heap.size = W.heap.size + 1 := heap_push_size _ _
  exact ⟨e1, rfl, .refl _, rfl, by rw [e1]; omega, fun b hb => heap_push_old _ _ hb⟩
 cases r4 with
 | num h1 h2 h3 =>
  obtain ⟨d, e⟩ := h3
  obtain ⟨e1, e2⟩ := early a1 d e
  exact ⟨N1, gs1, w1, sl1, t1, q1, _, r1, by rw [r3, h2], r5, e2, .inl ⟨r6.past, h1, rfl, e1⟩⟩
 | arg h1 h1' h2 h3 =>
  obtain ⟨d, e⟩ := h3
  obtain ⟨e1, e2⟩ := early a1 d e
  exact ⟨N1, gs1, w1, sl1, t1, q1, _, r1, by rw [r3, h2], r5, e2, .inr (.inl ⟨r6.past, h1, h1', rfl, e1⟩)⟩
 | crew n hz hn hr hw hg =>
  obtain ⟨d, e⟩ := hw
  have hnb : numB z = true := by
   subst hz
   rcases hn with e | e | e | e | e <;> rw [e] <;> decide
  obtain ⟨m2, hm2⟩ := hg
  have A0 := P0_ok (K := gs.size) h hS hK
  have G0 := P0_geo (n := n) (K := gs.size) h hS hK
  have f1 : FS S W A m (m / 2) cap n gs.size none undef w1 := by
   subst e
   exact ⟨fun b _ _ _ _ => rfl, fun b e => (by cases e), B7_live d⟩
  have hs1 : w1.heap.size = W.heap.size + 7 := by rw [e]; exact B7_size
  let D : Nat → WDH := fun i => dFresh (halfs n (m / 2) l i)
  have hlen : (halfs n (m / 2) l 0).length + (halfs n (m / 2) l 1).length = m := by
   simp [halfs, bkl, h.len]; omega
  have hno : ∀ i ph, (D i).q = .lap ph → ph = .al ∧ (D i).rest ≠ [] := fun i ph e => by
   simp only [D, dFresh] at e ⊢
   split at e
   ·cases e
   ·cases e; exact ⟨rfl, ‹_›⟩
  have hinv : InvH (P0 S W A gs.size) n (W.heap.size + 7) (halfs n (m / 2) l) (LdH S W A m (m / 2) cap n gs.size fr cs) ((bkl n l).foldl inc (List.replicate n 0)) (W.heap.size + 8 + m) W.heap.size W (M1 (.sp 1 5) .w0 D, M2 D (3 * m2 + 1) gs.size q1) (crowd gs1 w1 sl1) t1 := by
   refine ⟨gs1, w1, sl1, 0, D, .sp 1 5, 3 * m2 + 1, 0, a1, 0, 0, q1, none, .w0, false, fun _ _ => False, List.replicate n 0, rfl, ?_, rfl⟩
   exact {
    a0 := r3
    cs := .skd (r := 1) (.inl ⟨rfl, rfl⟩) (hm2 w1 f1)
    size := r2
    old := fun x g hp hlt hg => r5.old x g hp hg
    wk := fun i hi => absurd hi (Nat.not_lt_zero i)
    deaf0 := r6.past.hears
    deafW := fun i hi => absurd hi (Nat.not_lt_zero i)
    rel := fun i hi => absurd hi (Nat.not_lt_zero i)
    above := fun x hx => r5.above x (by rw [r2]; exact hx)
    fresh := fun i _ => rfl
    mid := by
     rw [tok_none fun y _ => crit_fresh _]
     exact MidH.begin (P0w_ok A0) r6.past r6.fresh
    wg := by rw [e]; exact B7_wg
    mode := by
     have x : Lk.Mode 0 (fun i => md (D i)) (.sp 1 5) (((Vc 0 (fun i => md (D i)) + pend (.sp 1 5) : Nat) : Int) * KK) 0 := .opn (tag := .sp 1 5) trivial (fun i hi => absurd hi (Nat.not_lt_zero i)) (fun n e => (by cases e)) (fun n vs e => (by cases e))
     have e : ((Vc 0 (fun i => md (D i)) + pend (.sp 1 5) : Nat) : Int) * KK = 0 := by
      rw [show Vc 0 (fun i => md (D i)) + pend (.sp 1 5) = 0 from rfl]
      exact Int.zero_mul _
     rw [e] at x
     exact x
    mu := by rw [e]; exact B7_mu
    jj := by rw [show (D 0).q.st = .N from st_fresh _, show (D 1).q.st = .N from st_fresh _]; decide
    cl := by simp
    al := fun _ => by rw [e]; exact B7_al
    cr := fun i _ hc => by rw [show (D i).q.crit = false from crit_fresh _] at hc; cases hc
    ct := by
     show (halfs n (m / 2) l 0 ++ halfs n (m / 2) l 1).foldl inc _ = _
     simp only [halfs, bkl, if_true]
     rw [if_neg (by omega), ← List.map_append, List.take_append_drop]
    ne := fun i _ ph e _ => (hno i ph e).2
    sz := by
     rw [show alft (D 0) = _ from alft_fresh _, show alft (D 1) = _ from alft_fresh _, hs1]
     simp only [if_true]
     omega
    own := fun i b hi => absurd hi (Nat.not_lt_zero i)
    owl := fun x b hx => hx.elim
    hbl := fun b e => (by cases e)
    hbj := ⟨fun _ => rfl, fun e => (by cases e)⟩
    acq := fun e => (by cases e)
    kp := by rw [e]; exact B7_kp d _
    live := f1.live
    lo := by rw [hs1]; exact Nat.le_refl _
    bl := fun i _ hb => by
     obtain ⟨⟨sv, e⟩, _⟩ := hb
     have := (hno i _ e).1
     cases this
    dep := fun i hi => absurd hi (Nat.not_lt_zero i) }
  obtain ⟨N2, m', t2, k1, gs2, w2, sl2, a2, q2, rfl, k2, k3, k4, k5, k6, k7, k8, wd, mm, k9⟩ := crewH_runs G0 (fun g w hg => hg.1) (fun g w d hg => hg.at d) _ _ _ hinv
  obtain ⟨_, g1, n3, g2⟩ := k3
  have hsz2 : W.heap.size + 7 ≤ w2.heap.size := by rw [k7]; omega
  obtain ⟨N3, gs3, a3, w3, sl3, t3, q3, u1, u2, u3, ⟨u4, u5⟩, u6, u7⟩ := walk_beside (P := Try.prog) (Shun := ShB fun b => S b ∨ b = W.heap.size + 4) (B := w2.heap.size) (D := DE S W) (fun w w' es hd e he => EvL.mono (hd e he) hsz2) _ n3 gs2 a2 w2 sl2 t2 q2 (Nat.le_refl _) k2 k4 k5 (g2 w2 ⟨w2.drawn, rfl⟩)
  obtain ⟨d3, rfl⟩ := u5
  refine ⟨N1 + (N2 + N3), gs3, w2.at d3, sl3, t3, q3, _, ?_, by rw [u3, u4], u6, ⟨k8.tape, k8.os, k8.output, k8.size, k8.block⟩, .inr (.inr ⟨u7, n, hz, hnb, hr, rfl, k7, k6⟩)⟩
  rw [runNT_add, r1]
  show runNT Try.prog (N2 + N3) (crowd gs1 w1 sl1) t1 = _
  rw [runNT_add, k1]
  exact u1
end
end Go.Proofs.Ytnikfjfcbpeieaa.Hk
end
