/- The contracts of relay.may, relay.Flood, relay.Egress (by hand), in the form that the printed texts of the laws ask. -/
import Derived.Test.YtnkkedkkjmehpaaPRbx1
import Derived.Test.YtnkkedkkjmehpaaShelf
import Derived.RangeFuncBox
import Derived.RangeFuncLeaves
import Derived.Shelf.Abstract
import Derived.WalkKit
import Derived.OwnWalkIn
import Derived.TacticsInMore
import Derived.LoopNIn
import Derived.LoopIn
import Derived.Maps.AppendAt
import Derived.Outline
import Derived.Lib.Hide
import Derived.RegionIn
import Derived.Laws.Slices
namespace Go.Proofs.Ytnkkedkkjmehpaa.ERel
open Go.RowKit Go.Shelf Go.Proofs.Ytnkkedkkjmehpaa.PRe Go.Proofs.Ytnkkedkkjmehpaa.PRb Go.Proofs.YtnkkedkkjmehpaaW.PrintWords Go.Proofs.YtnkkedkkjmehpaaW.PrintLast Go.Proofs.YtnkkedkkjmehpaaW.PrintMore
set_option linter.unusedVariables false
set_option linter.unusedSimpArgs false
attribute [local go_sem] Oper.semAt_some

/-- A state that is none. -/
def oddB (s : S60) : Bool := decide (s.f0 < 0) || decide (3 < s.f0)

theorem odd_any (a b : Int) (w : World) : Calls Try.prog 61 #[.agg #[.int .i64 a, .int .i64 b]] w fun e w' => e = .returned (.bool (decide (a < 0) || decide (3 < a))) ∧ Below w.heap.size w w' := by
  by_cases h : a < 0
  · have d := decide_eq_true h
    go_enter Try.func61, Try.ntmps61
    go_wp2
    go_ret
    exact ⟨by simp [h], (Below.refl _ _).alloc (Nat.le_refl _) _⟩
  · have d := decide_eq_false h
    go_enter Try.func61, Try.ntmps61
    go_wp2
    go_ret
    exact ⟨by simp [h], (Below.refl _ _).alloc (Nat.le_refl _) _⟩

theorem rd_take (l : List S60) (k : Nat) (h : k < l.length) : l.take (k + 1) = l.take k ++ [rd_T60 l (k : Int)] := by
  rw [List.take_succ_eq_append_getElem h]
  simp [rd_T60, List.getD_eq_getElem?_getD, h]

set_option maxRecDepth 100000 in
set_option maxHeartbeats 2000000 in
theorem index_any (A : Option Addr) (c : Nat) (l : List S60) (w : World) (hC : Kd.C k60 w A l.length l) (hl : l.length ≤ 1000) :
    Calls Try.prog 68 #[.slice A l.length c, .func (.func 61) #[] #[]] w fun e w' => ∃ i : Int, e = .returned (.int .i64 i) ∧ decide (0 ≤ i) = l.any oddB ∧ Below w.heap.size w w' := by
  have HC := Aside0.mk hC
  clear hC
  have hu60 := Try.underlying60
  go_enter Try.func68, Try.ntmps68
  go_wp2
  go_loopw [8] (fun i wr => ∃ k : Nat, k ≤ l.length ∧ i = .int .i64 k ∧ (l.take k).any oddB = false ∧ Aside0 (Below w.heap.size w wr)) (fun i _ => l.length - (intOf i).toNat)
  case atStart => exact ⟨0, Nat.zero_le _, rfl, rfl, ⟨Below.refl _ _⟩⟩
  case round =>
    obtain ⟨k, hk, rfl, hno, HB⟩ := hrel
    by_cases hlt : k < l.length
    · have hCr := Kd.C_below (w1 := wr) HC.out HB.out
      obtain ⟨ad, e, hx0, hx1⟩ := at_T60 hCr (k : Int) (by omega) (by omega)
      subst e
      rw [Int.toNat_natCast] at hx0 hx1
      have HT := Aside0.mk (rd_take l k hlt)
      generalize rd_T60 l (k : Int) = x at hx0 hx1 HT
      clear hCr
      have HH := odd_any x.f0 x.f1
      cases ho : (decide (x.f0 < 0) || decide (3 < x.f0))
      · rw [ho] at HH
        go_wp2_with (go_at_call 61; refine (HH _).mono ?_; rintro e w1 ⟨rfl, hb⟩)
        go_roundw
        case rel => exact ⟨k + 1, by omega, by go_num, by rw [HT.out, List.any_append, hno]; simpa [oddB] using ho, ⟨below_step HB.out hb⟩⟩
        case measure => simp [intOf]; omega
      · rw [ho] at HH
        go_wp2_with (go_at_call 61; refine (HH _).mono ?_; rintro e w1 ⟨rfl, hb⟩)
        go_ret
        refine ⟨_, rfl, ?_, below_step HB.out hb⟩
        have h1 : (l.take (k + 1)).any oddB = true := by rw [HT.out, List.any_append, hno]; simpa [oddB] using ho
        have h2 : l.any oddB = true := by
          obtain ⟨y, hy, hy2⟩ := List.any_eq_true.1 h1
          exact List.any_eq_true.2 ⟨y, List.mem_of_mem_take hy, hy2⟩
        rw [h2]; simp
    · obtain rfl : k = l.length := by omega
      go_wp2
      go_ret
      rw [List.take_length] at hno
      exact ⟨_, rfl, by rw [hno]; rfl, HB.out⟩

theorem contains_any (A : Option Addr) (c : Nat) (l : List S60) (w : World) (hC : Kd.C k60 w A l.length l) (hl : l.length ≤ 1000) :
    Calls Try.prog 62 #[.slice A l.length c, .func (.func 61) #[] #[]] w fun e w' => e = .returned (.bool (l.any oddB)) ∧ Below w.heap.size w w' := by
  have HI := index_any A c l
  go_enter Try.func62, Try.ntmps62
  go_wp2_with (go_at_call 68; refine (HI _ hC hl).mono ?_; rintro e w1 ⟨i, rfl, hi, hb⟩)
  go_ret
  exact ⟨rfl, hb⟩

/-- Why ports are not asked. -/
def whyN (l : List S60) (a : Int) : Int := if l.length < 1 ∨ 8 < l.length ∨ l.any oddB = true then 1 else (if a < 0 ∨ (l.length : Int) ≤ a then 3 else 0)

def relay_may.f (l0 : List S60) (a1 : Int) : Option Int := if l0.length ≤ 1000 then some (whyN l0 a1) else none

set_option maxHeartbeats 1000000 in
theorem may_any (A : Option Addr) (c : Nat) (l : List S60) (a : Int) (w : World) (hC : Kd.C k60 w A l.length l) (hl : l.length ≤ 1000) :
    Calls Try.prog 51 #[.slice A l.length c, .int .i64 a] w fun e w' => e = .returned (.int .i64 (whyN l a)) ∧ Below w.heap.size w w' := by
  have HI := contains_any A c l
  by_cases h0 : l.length < 1
  · have d0 : decide ((l.length : Int) < 1) = true := decide_eq_true (by omega)
    have d1 : decide (l.length < 1) = true := decide_eq_true h0
    go_enter Try.func51, Try.ntmps51
    go_wp2
    go_ret
    exact ⟨by simp [whyN, h0], Below.refl _ _⟩
  · have d0 : decide ((l.length : Int) < 1) = false := decide_eq_false (by omega)
    have d1 : decide (l.length < 1) = false := decide_eq_false h0
    by_cases h1 : 8 < l.length
    · have d2 : decide (8 < (l.length : Int)) = true := decide_eq_true (by omega)
      have d3 : decide (8 < l.length) = true := decide_eq_true h1
      go_enter Try.func51, Try.ntmps51
      go_wp2
      go_ret
      exact ⟨by simp [whyN, h1], Below.refl _ _⟩
    · have d2 : decide (8 < (l.length : Int)) = false := decide_eq_false (by omega)
      have d3 : decide (8 < l.length) = false := decide_eq_false h1
      cases ho : l.any oddB
      · rw [ho] at HI
        by_cases h2 : a < 0
        · have d4 : decide (a < 0) = true := decide_eq_true h2
          go_enter Try.func51, Try.ntmps51
          go_wp2_with (go_at_call 62; refine (HI _ hC hl).mono ?_; rintro e w1 ⟨rfl, hb⟩)
          go_ret
          exact ⟨by simp [whyN, h0, h1, ho, h2], hb⟩
        · have d4 : decide (a < 0) = false := decide_eq_false h2
          by_cases h3 : (l.length : Int) ≤ a
          · have d5 : decide ((l.length : Int) ≤ a) = true := decide_eq_true h3
            go_enter Try.func51, Try.ntmps51
            go_wp2_with (go_at_call 62; refine (HI _ hC hl).mono ?_; rintro e w1 ⟨rfl, hb⟩)
            go_ret
            exact ⟨by simp [whyN, h0, h1, ho, h3], hb⟩
          · have d5 : decide ((l.length : Int) ≤ a) = false := decide_eq_false h3
            go_enter Try.func51, Try.ntmps51
            go_wp2_with (go_at_call 62; refine (HI _ hC hl).mono ?_; rintro e w1 ⟨rfl, hb⟩)
            go_ret
            exact ⟨by simp [whyN, h0, h1, ho, h2, h3], hb⟩
      · rw [ho] at HI
        go_enter Try.func51, Try.ntmps51
        go_wp2_with (go_at_call 62; refine (HI _ hC hl).mono ?_; rintro e w1 ⟨rfl, hb⟩)
        go_ret
        exact ⟨by simp [whyN, ho], hb⟩

theorem relay_may.calls (A0 : Option Addr) (c0 : Nat) (l0 : List S60) (a1 r : Int) (w : World) (hr0 : Kd.C k60 w A0 l0.length l0) (hc0 : l0.length ≤ c0) (h : relay_may.f l0 a1 = some r) :
    Calls Try.prog 51 #[.slice A0 l0.length c0, .int .i64 a1] w fun e w' => e = .returned (.int .i64 r) ∧ Below w.heap.size w w' := by
  unfold relay_may.f at h
  split at h
  · rename_i hl
    obtain rfl := Option.some.inj h
    exact may_any A0 c0 l0 a1 w hr0 hl
  · cases h

theorem others_any (A : Option Addr) (n c : Nat) (a : Int) (F : Fence) (m : Nat) (h52 : F.fn 52) (hro : F.round = none) (w : World) :
    CallsIn F m Try.prog 52 #[.agg #[.slice A n c, .int .i64 a]] w fun e w' => e = .returned (.func (.func 63) #[] #[.pointer (some ⟨w.heap.size, 0, none⟩)]) ∧ w' = w.alloc (.cells #[.slice A n c, .int .i64 a] 82) := by
  refine callsIn_of_wp Try.func52 rfl h52 ?_ hro
  simp only [Try.ntmps52, List.size_toArray, List.length_cons, List.length_nil, Nat.reduceAdd, Nat.reduceSub, Array.replicate_succ, Array.replicate_zero, List.push_toArray, List.append_toArray, List.nil_append, List.cons_append]
  gi_wp2
  go_ret
  exact ⟨rfl, rfl⟩

/-- Does a frame go from the one port to the other? -/
def goB (l : List S60) (a p : Int) : Bool := (p != a) && ((rd_T60 l a).f0 == 3 && (rd_T60 l p).f0 == 3)
/-- All ports up to one by which a frame goes on. -/
def goes (l : List S60) (a : Int) (k : Nat) : List Int := ((List.range k).map Int.ofNat).filter fun p => goB l a p
theorem goes_succ (l : List S60) (a : Int) (k : Nat) : goes l a (k + 1) = if goB l a k = true then goes l a k ++ [(k : Int)] else goes l a k := by
  unfold goes
  rw [List.range_succ, List.map_append, List.filter_append]
  have e : Int.ofNat k = (k : Int) := rfl
  by_cases h : goB l a k = true
  · simp [e, h]
  · simp [e, h]
theorem goes_length (l : List S60) (a : Int) (k : Nat) : (goes l a k).length ≤ k := by
  unfold goes
  exact Nat.le_trans (List.length_filter_le _ _) (by simp)

/-- A box of two cells. -/
def Bx2 (W : World) (B : Nat) (t : TypeId) (u v : Value) : Prop := W.heap[B]? = some (.cells #[u, v] t (0, 0))
theorem Bx2.lt {W : World} {B : Nat} {t : TypeId} {u v : Value} (h : Bx2 W B t u v) : B < W.heap.size := (Array.getElem?_eq_some_iff.1 h).1
theorem Bx2.c0 {W : World} {B : Nat} {t : TypeId} {u v : Value} (h : Bx2 W B t u v) : W.cell? ⟨B, 0, none⟩ = some u := (blk_cell h 0).trans rfl
theorem Bx2.c1 {W : World} {B : Nat} {t : TypeId} {u v : Value} (h : Bx2 W B t u v) : W.cell? ⟨B, 1, none⟩ = some v := (blk_cell h 1).trans rfl
theorem Bx2.kept {W W' : World} {row : Option Nat} {B : Nat} {t : TypeId} {u v : Value} (h : Bx2 W B t u v) (hg : W.grownBy W' row) (hne : some B ≠ row) : Bx2 W' B t u v := (hg.block B h.lt hne).trans h
theorem Bx2.alloc {W : World} {B : Nat} {t : TypeId} {u v : Value} (h : Bx2 W B t u v) (o : Obj) : Bx2 (W.alloc o) B t u v := h.kept (World.grownBy_alloc W o none) (by simp)
theorem Bx2.below {W W' : World} {B : Nat} {t : TypeId} {u v : Value} (h : Bx2 W B t u v) (hb : Below W.heap.size W W') : Bx2 W' B t u v := blk_below h hb
theorem Bx2.not_row {W : World} {B : Nat} {t e : TypeId} {u u' : Value} (h : Bx2 W B t u u') (hte : t ≠ e) {base size k : Nat} {v : Value} {xs : List Value} (hr : W.ownsRow base e size v k xs) : some B ≠ v.ownBlock := by
  rcases hr.2 with ⟨rfl, _⟩ | ⟨g, cap, cur, rfl, _, hgb, _⟩
  · simp [Value.ownBlock]
  · intro e'
    obtain rfl : B = g := by simpa [Value.ownBlock] using e'
    have := (show W.heap[B]? = _ from h).symm.trans hgb
    simp at this
    exact hte this.2
theorem grown_of_below {W W' : World} (hb : Below W.heap.size W W') : W.grownBy W' none := ⟨hb.os, hb.tape, hb.output, hb.size, fun k hk _ => hb.block k hk⟩

/-- What a round keeps: what lay below n₀, and the box. -/
def KpF (n₀ B : Nat) (t : TypeId) (u v : Value) (W W' : World) : Prop := Below n₀ W W' ∧ (Bx2 W B t u v → Bx2 W' B t u v)
theorem kpF_t {n₀ B : Nat} {t : TypeId} {u v : Value} {X Y Z : World} (h : KpF n₀ B t u v X Y) (k : KpF n₀ B t u v Y Z) : KpF n₀ B t u v X Z := ⟨h.1.trans k.1, fun hu => k.2 (h.2 hu)⟩
theorem kpF_b {n₀ B : Nat} {t : TypeId} {u v : Value} {w : World} (hn : n₀ ≤ w.heap.size) (hB : B < w.heap.size) (W : World) (l : Nat) (o o' : Obj) (hl : w.heap.size ≤ l) (h : W.heap[l]? = some o) (h1 : o.isCells = false) (h2 : o.isWalk = false) : KpF n₀ B t u v W (W.putObj l o') :=
  ⟨belowK_b hn W l o o' hl h h1 h2, fun hu => hu.kept (grownBy_putObj' W l o') (by intro e; injection e with e; omega)⟩

theorem fwd_eq (l : List S60) (b p : Int) (h0 : 0 ≤ p) (h1 : p < l.length) : relay_from_forwards.f l b p = some ((rd_T60 l p).f0 == 3) := by
  unfold relay_from_forwards.f port_May.f
  rw [if_pos h0, if_pos h1]
  by_cases h : (rd_T60 l p).f0 = 2 <;> simp [h]

set_option maxRecDepth 100000 in
set_option maxHeartbeats 4000000 in
theorem flood1_in (n : Nat) (hn : 1 ≤ n) (l Bo n₀ : Nat) (A : Option Addr) (cap : Nat) (L : List S60) (a : Int) (w₀ : World) (hn₀ : n₀ = w₀.heap.size)
    (hC : Kd.C k60 w₀ A L.length L) (hcap : L.length ≤ cap) (hl : L.length ≤ 1000) (ha : 0 ≤ a) (ha2 : a < L.length) (J Jx : List Int → World → Prop) (W : World) (hJ : AbidesFrom W.heap.size J) (hJx : AbidesFrom W.heap.size Jx)
    (hY : ∀ pre x W, J pre W → pre.length < L.length → YieldAt Fence.wide (n - 1) Try.prog l #[.int .i64 x] W fun e W' =>
      (e = .returned (.bool true) ∧ J (pre ++ [x]) W' ∧ KpF n₀ Bo 82 (.slice A L.length cap) (.int .i64 a) W W') ∨ (e = .returned (.bool false) ∧ Jx (pre ++ [x]) W'))
    (hW : Below n₀ w₀ W) (hBo : Bx2 W Bo 82 (.slice A L.length cap) (.int .i64 a)) (h0 : J [] W) :
    CallsIn Fence.wide n Try.prog 63 #[.func (.yield l) #[] #[], .pointer (some ⟨Bo, 0, none⟩)] W fun e W' => (∃ v, e = .returned v) ∧
      ((∃ ys, ys = goes L a L.length ∧ J ys W') ∨ (∃ pre, True ∧ Jx pre W')) := by
  have hro : Fence.wide.round = none := rfl
  have t64 : Fence.wide.fn 64 := trivial
  refine callsIn_of_wp Try.func63 rfl trivial ?_ hro
  simp only [Try.ntmps63, List.size_toArray, List.length_cons, List.length_nil, Nat.reduceAdd, Nat.reduceSub, Array.replicate_succ, Array.replicate_zero, List.push_toArray, List.append_toArray, List.nil_append, List.cons_append]
  have HC := Aside0.mk hC
  clear hC
  have hu82 := Try.underlying82
  have hc0 := hBo.c0
  have hc1 := hBo.c1
  gi_wp2
  gi_loopw [7] (fun i wr => ∃ k : Nat, k ≤ L.length ∧ i = .int .i64 k ∧ J (goes L a k) wr ∧ Aside0 (Below n₀ w₀ wr) ∧ Aside0 (Bx2 wr Bo 82 (.slice A L.length cap) (.int .i64 a)) ∧ Aside0 (W.heap.size ≤ wr.heap.size))
    (fun i _ => L.length - (intOf i).toNat)
  case atStart => exact ⟨0, Nat.zero_le _, rfl, by simpa [goes] using h0, ⟨hW⟩, ⟨hBo⟩, ⟨Nat.le_refl _⟩⟩
  case round =>
    clear hc0 hc1
    obtain ⟨k, hk, rfl, hJs, HB, HO, HS⟩ := hrel
    have hc0 := HO.out.c0
    have hc1 := HO.out.c1
    by_cases hlt : k < L.length
    · have HG := Aside0.mk (goes_succ L a k)
      have HF1 := Aside0.mk (fwd_eq L a a ha ha2)
      have HF2 := Aside0.mk (fwd_eq L a (k : Int) (by omega) (by omega))
      by_cases hka : (k : Int) = a
      · have e1 : ((k : Int) == a) = true := beq_iff_eq.2 hka
        have e2 : ((k : Int) != a) = false := bne_eq_false_iff_eq.2 hka
        gi_wp2
        refine ⟨fun _ h => (by cases h), ?_⟩
        gi_wp2
        go_roundw
        case rel => exact ⟨k + 1, by omega, by go_num, by rw [HG.out, if_neg (by simp [goB, hka])]; exact hJs, HB, HO, HS⟩
        case measure => simp [intOf]; omega
      · have e1 : ((k : Int) == a) = false := beq_eq_false_iff_ne.2 hka
        have e2 : ((k : Int) != a) = true := bne_iff_ne.2 hka
        have HC1 := fun (W1 : World) (hb : Below n₀ w₀ W1) => Kd.C_below HC.out (hn₀ ▸ hb)
        cases hf1 : ((rd_T60 L a).f0 == 3)
        · rw [hf1] at HF1
          have HN := Aside0.mk (show ¬ goB L a k = true from by simp [goB, hf1])
          gi_wp2_with (gi_at_call 64; refine (callsIn_wide.2 (relay_from_forwards.calls A cap L a a false _ (HC1 _ HB.out) hcap HF1.out)).mono ?_; rintro e w1 ⟨rfl, hb1⟩)
          refine ⟨fun _ h => (by cases h), ?_⟩
          gi_wp2
          go_roundw
          case rel => exact ⟨k + 1, by omega, by go_num, by rw [HG.out, if_neg HN.out]; exact hJ _ _ _ none hJs (grown_of_below hb1) (fun r e => by cases e), ⟨HB.out.trans (hb1.mono (by have := HB.out.size; omega))⟩, ⟨HO.out.below hb1⟩, ⟨Nat.le_trans HS.out hb1.size⟩⟩
          case measure => simp [intOf]; omega
        · rw [hf1] at HF1
          cases hf2 : ((rd_T60 L k).f0 == 3)
          · rw [hf2] at HF2
            have HN := Aside0.mk (show ¬ goB L a k = true from by simp [goB, hf2])
            gi_wp2_with (first
              | (gi_at_call 64; refine (callsIn_wide.2 (relay_from_forwards.calls A cap L a a true _ (HC1 _ HB.out) hcap HF1.out)).mono ?_; rintro e w1 ⟨rfl, hb1⟩; have hd0 := (HO.out.below hb1).c0; have hd1 := (HO.out.below hb1).c1; have HB1 := Aside0.mk (HB.out.trans (hb1.mono (by have := HB.out.size; omega))); clear HF1)
              | (gi_at_call 64; refine (callsIn_wide.2 (relay_from_forwards.calls A cap L a k false _ (HC1 _ HB1.out) hcap HF2.out)).mono ?_; rintro e w2 ⟨rfl, hb2⟩))
            refine ⟨fun _ h => (by cases h), ?_⟩
            gi_wp2
            go_roundw
            case rel => exact ⟨k + 1, by omega, by go_num, by rw [HG.out, if_neg HN.out]; exact hJ _ _ _ none (hJ _ _ _ none hJs (grown_of_below hb1) (fun r e => by cases e)) (grown_of_below hb2) (fun r e => by cases e), ⟨HB1.out.trans (hb2.mono (by have := HB1.out.size; omega))⟩, ⟨(HO.out.below hb1).below hb2⟩, ⟨Nat.le_trans HS.out (Nat.le_trans hb1.size hb2.size)⟩⟩
            case measure => simp [intOf]; omega
          · rw [hf2] at HF2
            have HN := Aside0.mk (show goB L a k = true from by simp [goB, hf1, hf2, hka])
            have HLn := Aside0.mk (goes_length L a k)
            gi_wp2_with (first
              | (gi_at_call 64; refine (callsIn_wide.2 (relay_from_forwards.calls A cap L a a true _ (HC1 _ HB.out) hcap HF1.out)).mono ?_; rintro e w1 ⟨rfl, hb1⟩; have hd0 := (HO.out.below hb1).c0; have hd1 := (HO.out.below hb1).c1; have HB1 := Aside0.mk (HB.out.trans (hb1.mono (by have := HB.out.size; omega))); clear HF1)
              | (gi_at_call 64; refine (callsIn_wide.2 (relay_from_forwards.calls A cap L a k true _ (HC1 _ HB1.out) hcap HF2.out)).mono ?_; rintro e w2 ⟨rfl, hb2⟩; obtain ⟨fn, tmps, assign, body, hy, hR⟩ := hY _ (k : Int) w2 (hJ _ _ _ none (hJ _ _ _ none hJs (grown_of_below hb1) (fun r e => by cases e)) (grown_of_below hb2) (fun r e => by cases e)) (Nat.lt_of_le_of_lt HLn.out hlt)))
            refine hR.mono ?_
            rintro e W3 (⟨rfl, hJ3, hk3⟩ | ⟨rfl, hJx3⟩)
            · gi_wp2
              go_roundw
              case rel => exact ⟨k + 1, by omega, by go_num, by rw [HG.out, if_pos HN.out]; exact hJ3, ⟨(HB1.out.trans (hb2.mono (by have := HB1.out.size; omega))).trans hk3.1⟩, ⟨hk3.2 ((HO.out.below hb1).below hb2)⟩, ⟨Nat.le_trans HS.out (Nat.le_trans hb1.size (Nat.le_trans hb2.size hk3.1.size))⟩⟩
              case measure => simp [intOf]; omega
            · gi_wp2
              refine bodyPost_ret (results_none rfl _ _ _) rfl ?_
              exact ⟨⟨_, rfl⟩, .inr ⟨_, trivial, hJx3⟩⟩
    · obtain rfl : k = L.length := by omega
      gi_wp2
      go_end0
      exact ⟨⟨_, rfl⟩, .inl ⟨_, rfl, hJs⟩⟩

theorem flood_stops (n : Nat) (hn : 1 ≤ n) (Bo n₀ : Nat) (A : Option Addr) (cap : Nat) (L : List S60) (a : Int) (w₀ w : World) (hn₀ : n₀ = w₀.heap.size) (hb : Below n₀ w₀ w)
    (hC : Kd.C k60 w₀ A L.length L) (hcap : L.length ≤ cap) (hl : L.length ≤ 1000) (ha : 0 ≤ a) (ha2 : a < L.length) (hBo : Bx2 w Bo 82 (.slice A L.length cap) (.int .i64 a)) :
    SeqStopsK Fence.wide n Try.prog 63 #[.pointer (some ⟨Bo, 0, none⟩)] (fun x : Int => #[Value.int .i64 x]) (KpF n₀ Bo 82 (.slice A L.length cap) (.int .i64 a)) (fun ys => ys = goes L a L.length) (fun _ => True) L.length w := fun l J Jx W hW hJ hJx hY h0 =>
  flood1_in n hn l Bo n₀ A cap L a w₀ hn₀ hC hcap hl ha ha2 J Jx W hJ hJx hY (hb.trans (hW.mono (hn₀ ▸ hb.size))) (hBo.below hW) h0

theorem flood_no (A0 : Option Addr) (c0 : Nat) (l0 : List S60) (a1 : Int) (w : World) (hC : Kd.C k60 w A0 l0.length l0) (hl : l0.length ≤ 1000) (hno : whyN l0 a1 ≠ 0) :
    Calls Try.prog 33 #[.slice A0 l0.length c0, .int .i64 a1] w fun e w' => e = .returned (.tuple #[.slice none 0 0, .int .i64 (whyN l0 a1)]) ∧ Below w.heap.size w w' := by
  have HM := may_any A0 c0 l0 a1
  have e0 : (whyN l0 a1 == 0) = false := beq_eq_false_iff_ne.2 hno
  have e1 : (whyN l0 a1 != 0) = true := bne_iff_ne.2 hno
  go_enter Try.func33, Try.ntmps33
  go_wp2_with (go_at_call 51; refine (HM _ hC hl).mono ?_; rintro e w1 ⟨rfl, hb⟩)
  go_ret2
  exact ⟨rfl, hb⟩

theorem why_in {l0 : List S60} {a1 : Int} (hy : whyN l0 a1 = 0) : 0 ≤ a1 ∧ a1 < l0.length := by
  unfold whyN at hy
  split at hy
  · cases hy
  · split at hy
    · cases hy
    · omega

set_option maxRecDepth 100000 in
set_option maxHeartbeats 4000000 in
theorem flood_yes (A0 : Option Addr) (c0 : Nat) (l0 : List S60) (a1 : Int) (w : World) (hC : Kd.C k60 w A0 l0.length l0) (hcap : l0.length ≤ c0) (hl : l0.length ≤ 1000) (hy : whyN l0 a1 = 0) :
    Calls Try.prog 33 #[.slice A0 l0.length c0, .int .i64 a1] w fun e w' => ∃ v1_ : Value, e = .returned (.tuple #[v1_, .int .i64 0]) ∧ w'.ownsRow w.heap.size 3 1 v1_ (goes l0 a1 l0.length).length ((goes l0 a1 l0.length).map (Value.int .i64)) ∧ Below w.heap.size w w' := by
  have HM := may_any A0 c0 l0 a1
  rw [hy] at HM
  obtain ⟨ha, ha2⟩ := why_in hy
  obtain ⟨i0, hi, hz0, hz1, hz2⟩ := info_parts info3
  refine (callsIn_wide (n := 6)).1 ?_
  have hro : Fence.wide.round = none := rfl
  refine callsIn_of_wp_marks Try.func33 rfl trivial ?_ hro
  simp only [Try.ntmps33, List.size_toArray, List.length_cons, List.length_nil, Nat.reduceAdd, Nat.reduceSub, Array.replicate_succ, Array.replicate_zero, List.push_toArray, List.append_toArray, List.nil_append, List.cons_append]
  have t51 : Fence.wide.fn 51 := trivial
  have t52 : Fence.wide.fn 52 := trivial
  gi_wp2_with (first
    | (gi_at_call 51; refine (callsIn_wide.2 (HM _ hC hl)).mono ?_; rintro e w1 ⟨rfl, hb⟩)
    | (gi_at_call 52; refine (others_any _ _ _ _ Fence.wide _ t52 hro _).mono ?_; rintro e w' ⟨rfl, rfl⟩))
  have bG := Boxed.new w1 22 (.slice none 0 0)
  have bO : Bx2 ((w1.alloc (.cells #[.slice none 0 0] 22)).alloc (.cells #[.slice A0 l0.length c0, .int .i64 a1] 82)) (w1.heap.size + 1) 82 (.slice A0 l0.length c0) (.int .i64 a1) := by
    have := blk_new (w1.alloc (.cells #[.slice none 0 0] 22)) (.cells #[.slice A0 l0.length c0, .int .i64 a1] 82)
    rw [World.size_alloc] at this
    exact this
  have hB0 : Below w.heap.size w ((w1.alloc (.cells #[.slice none 0 0] 22)).alloc (.cells #[.slice A0 l0.length c0, .int .i64 a1] 82)) :=
    (hb.alloc hb.size _).alloc (by have := hb.size; simp; omega) _
  have hs1 := hb.size
  refine wpIn_rangeFunc_ownG hro (by decide) (gf := 63) (lb := #[.pointer (some ⟨w1.heap.size + 1, 0, none⟩)]) rfl trivial (enters_of Try.func63 (by kernel_rfl) rfl)
    (flood_stops 5 (by omega) (w1.heap.size + 1) w.heap.size A0 c0 l0 a1 w _ rfl hB0 hC hcap hl ha ha2 bO) kpF_t (kpF_b (by simp; omega) (by simp)) (Below.refl _ _) (fun _ => rfl)
    (fun pre W => (∃ v, Boxed W w1.heap.size 22 v ∧ W.ownsRow w.heap.size 3 1 v pre.length (pre.map (Value.int .i64)) ∧ True) ∧ Below w.heap.size w W)
    (fun _ _ _ => False)
    (OwnFrom.and (Own.from (holdsRow_own w.heap.size w1.heap.size 22 3 1 (fun pre : List Int => pre.length) (fun pre : List Int => pre.map (Value.int .i64)) (fun (pre : List Int) v => True)) _) (ownFrom_below (Nat.le_refl _) (by simp; omega)))
    (fun _ _ _ _ _ hs _ _ => hs)
    ⟨⟨_, bG.alloc _, World.ownsRow_nil _ _ _ _, trivial⟩, hB0⟩
    (fun x => { tmps := #[.slice A0 l0.length c0, .int .i64 a1, undef, undef, .slice none 0 0, .int .i64 0, .int .i64 0, .func (.func 52) #[.agg #[.slice A0 l0.length c0, .int .i64 a1]] #[], .pointer (some ⟨w1.heap.size, 0, none⟩), .int .i64 x, .slice A0 l0.length c0, .int .i64 a1, .int .i64 0, .int .i64 0, .bool false, undef, .slice A0 l0.length c0, .int .i64 a1, .agg #[.slice A0 l0.length c0, .int .i64 a1], .func (.func 52) #[.agg #[.slice A0 l0.length c0, .int .i64 a1]] #[], .func (.func 52) #[.agg #[.slice A0 l0.length c0, .int .i64 a1]] #[], .func (.func 63) #[] #[.pointer (some ⟨w1.heap.size + 1, 0, none⟩)], .int .i64 x, undef, undef, undef, undef, undef], defers := [] }) ?assign ?body ?done ?stop
  case assign =>
    intro l x W K hK
    gi_wp2
    exact hK
  case body =>
    rintro l pre x W ⟨⟨v, hv, hrow, _⟩, hB⟩ hlt
    have hc := hv.cell
    gi_wp2_with (gi_at_builtin; refine wpListIn_append_own _ rfl _ _ 22 rfl w.heap.size 3 i0 (.int .i64 0) 1 8 Try.underlying22 hi hz0 hz1 hz2 rfl (by decide) _ _ _ rfl (hrow.alloc _) ⟨W.heap.size, 0, none⟩ 1 1 [.int .i64 x] rfl rfl (cell_one_new _ _ _) (by simp [Value.oneCell']) (by unfold maxLen; omega) (by omega) (by have := hB.size; simp; omega) ?_; intro v' w2 hown' hgrow _; obtain ⟨g', cap', rfl⟩ := ownsRow_succ hown'; obtain ⟨hv1, hv2, hr2, hk2, hb2⟩ := hv.appended (by decide) hrow hB.size hs1 hown' hgrow; have hc1 := hv1.cell; have hf1 := hv1.frozen)
    refine ⟨hk2.from _, ⟨hb2, fun hu => ?_⟩, ⟨_, hv2, by simpa using hr2, trivial⟩, hB.trans hb2⟩
    exact ((hu.alloc _).kept hgrow (hu.not_row (by decide) hrow)).kept (grownBy_setCell' _ _ _) (by simp)
  case done =>
    rintro D ys W hD rfl ⟨⟨v, hv, hrow, _⟩, hB⟩ hK
    have hc := hv.cell
    gi_wp2
    refine ⟨by simp, .inl ⟨_, _, rfl, run_takeDeferred (w := W) hK, ?_⟩⟩
    refine ⟨_, results_tmp2 rfl _ _ _, v, rfl, ?_, ?_⟩
    · exact ownsRow_putObj (W := W) hrow (.deferred none) hK rfl
    · exact hB.trans (belowK_b (w := w) (Nat.le_refl _) W D _ _ (by simp at hD; omega) hK rfl rfl)
  case stop =>
    rintro D c pre W _ _ h _
    exact h.elim

def relay_Flood.f (l0 : List S60) (a1 : Int) : Option (List Int × Int) :=
  if l0.length ≤ 1000 then (if whyN l0 a1 = 0 then some (goes l0 a1 l0.length, 0) else some ([], whyN l0 a1)) else none

theorem relay_Flood.calls (A0 : Option Addr) (c0 : Nat) (l0 : List S60) (a1 : Int) (r1 : List Int) (r2 : Int) (w : World) (hr0 : Kd.C k60 w A0 l0.length l0) (hc0 : l0.length ≤ c0) (h : relay_Flood.f l0 a1 = some (r1, r2)) :
    Calls Try.prog 33 #[.slice A0 l0.length c0, .int .i64 a1] w fun e w' => ∃ v0_ : Value, e = .returned (.tuple #[v0_, .int .i64 r2]) ∧ Kd.R (Kd.int .i64) 3 w' w.heap.size (fun _ => True) v0_ r1 ∧ Below w.heap.size w w' := by
  unfold relay_Flood.f at h
  split at h
  · rename_i hl
    split at h
    · rename_i hy
      simp only [Option.some.injEq, Prod.mk.injEq] at h
      obtain ⟨rfl, rfl⟩ := h
      refine (flood_yes A0 c0 l0 a1 w hr0 hc0 hl hy).mono ?_
      rintro e w' ⟨v, rfl, hown, hb⟩
      exact ⟨v, rfl, Kd.R_of_own hown (fun _ _ => trivial), hb⟩
    · rename_i hn
      simp only [Option.some.injEq, Prod.mk.injEq] at h
      obtain ⟨rfl, rfl⟩ := h
      refine (flood_no A0 c0 l0 a1 w hr0 hl hn).mono ?_
      rintro e w' ⟨rfl, hb⟩
      exact ⟨_, rfl, Kd.R_nil _ _ _ _ _, hb⟩
  · cases h
end Go.Proofs.Ytnkkedkkjmehpaa.ERel
