/- The iterator of order.back: what it hands out, for every loop body that keeps what lay below n₀ and the box of the row. -/
import Derived.RangeFuncBox
import Derived.RangeFuncLeaves
import Derived.Shelf.Abstract
import Derived.WalkKit
import Derived.OwnWalkIn
import Derived.TacticsInMore
import Derived.LoopNIn
import Derived.LoopIn
import Derived.Maps.AppendAt
import Derived.Outline
import Derived.Lib.Hide
import Derived.Test.YtnkkedkkjmehpaaProg
import Derived.Test.YtnkkedkkjmehpaaWMore
namespace Go.Proofs.Ytnkkedkkjmehpaa.ELru
open Go.RowKit Go.Shelf Go.Proofs.YtnkkedkkjmehpaaW.PrintWords Go.Proofs.YtnkkedkkjmehpaaW.PrintLast Go.Proofs.YtnkkedkkjmehpaaW.PrintMore
set_option linter.unusedVariables false
set_option linter.unusedSimpArgs false
attribute [local go_sem] Oper.semAt_some

/-- What has come when k rounds are over. -/
def bk (zs : List Int) (k : Nat) : List Int := zs.reverse.take k
theorem bk_succ (zs : List Int) (k : Nat) (h : k < zs.length) : bk zs (k + 1) = bk zs k ++ [rd zs ((zs.length - 1 - k : Nat) : Int)] := by
  unfold bk
  rw [List.take_succ_eq_append_getElem (by simpa using h)]
  have h2 : zs.length - 1 - k < zs.length := by omega
  simp [rd, h2]
theorem bk_length (zs : List Int) (k : Nat) (h : k ≤ zs.length) : (bk zs k).length = k := by simp [bk, h]

/-- What a round keeps: what lay below n₀, and the box of the row. -/
def KpB (n₀ B : Nat) (t : TypeId) (W W' : World) : Prop := Below n₀ W W' ∧ ∀ u, Boxed W B t u → Boxed W' B t u
theorem kpB_t {n₀ B : Nat} {t : TypeId} {X Y Z : World} (h : KpB n₀ B t X Y) (k : KpB n₀ B t Y Z) : KpB n₀ B t X Z := ⟨h.1.trans k.1, fun u hu => k.2 u (h.2 u hu)⟩
theorem kpB_b {n₀ B : Nat} {t : TypeId} {w : World} (hn : n₀ ≤ w.heap.size) (hB : B < w.heap.size) (W : World) (l : Nat) (o o' : Obj) (hl : w.heap.size ≤ l) (h : W.heap[l]? = some o) (h1 : o.isCells = false) (h2 : o.isWalk = false) : KpB n₀ B t W (W.putObj l o') :=
  ⟨belowK_b hn W l o o' hl h h1 h2, fun u hu => hu.kept (grownBy_putObj' W l o') (by intro e; injection e with e; omega)⟩

set_option maxRecDepth 100000 in
set_option maxHeartbeats 2000000 in
theorem back1_in (F : Fence) (n : Nat) (h66 : F.fn 66) (hro : F.round = none) (hn : 1 ≤ n) (l Bn Bo n₀ : Nat) (A : Option Addr) (cap m : Nat) (zs : List Int) (w₀ : World) (hn₀ : n₀ = w₀.heap.size)
    (hC : Kd.C (Kd.int .i64) w₀ A zs.length zs) (hm : m ≤ zs.length) (hl : zs.length ≤ 1000) (J Jx : List Int → World → Prop)
    (hY : ∀ pre x W, J pre W → pre.length < m → YieldAt F (n - 1) Try.prog l #[.int .i64 x] W fun e W' =>
      (e = .returned (.bool true) ∧ J (pre ++ [x]) W' ∧ KpB n₀ Bo 74 W W') ∨ (e = .returned (.bool false) ∧ Jx (pre ++ [x]) W'))
    (W : World) (hW : Below n₀ w₀ W) (hBn : W.cell? ⟨Bn, 0, none⟩ = some (.int .i64 m)) (hBo : Boxed W Bo 74 (.slice A zs.length cap)) (h0 : J [] W) :
    CallsIn F n Try.prog 66 #[.func (.yield l) #[] #[], .pointer (some ⟨Bn, 0, none⟩), .pointer (some ⟨Bo, 0, none⟩)] W fun e W' => (∃ v, e = .returned v) ∧
      ((∃ ys, ys = bk zs m ∧ J ys W') ∨ (∃ pre, True ∧ Jx pre W')) := by
  refine callsIn_of_wp Try.func66 rfl h66 ?_ hro
  simp only [Try.ntmps66, List.size_toArray, List.length_cons, List.length_nil, Nat.reduceAdd, Nat.reduceSub, Array.replicate_succ, Array.replicate_zero, List.push_toArray, List.append_toArray, List.nil_append, List.cons_append]
  have HC := Aside0.mk hC
  clear hC
  gi_wp2
  gi_loopw [6] (fun i wr => ∃ k : Nat, k ≤ m ∧ i = .int .i64 k ∧ J (bk zs k) wr ∧ Aside0 (Below n₀ w₀ wr) ∧ Aside0 (Boxed wr Bo 74 (.slice A zs.length cap)))
    (fun i _ => m - (intOf i).toNat)
  case atStart => exact ⟨0, Nat.zero_le _, rfl, by simpa [bk] using h0, ⟨hW⟩, ⟨hBo⟩⟩
  case round =>
    obtain ⟨k, hk, rfl, hJs, HB, HO⟩ := hrel
    have hoc := HO.out.cell
    by_cases hlt : k < m
    · have hCr := Kd.C_below (w1 := wr) HC.out (hn₀ ▸ HB.out)
      obtain ⟨ad, e, hx⟩ := Kd.at_int hCr ((zs.length - 1 - k : Nat) : Int) (by omega) (by omega)
      subst e
      rw [Int.toNat_natCast] at hx
      have HS := Aside0.mk (bk_succ zs k (by omega))
      have hlen := bk_length zs k (by omega)
      generalize rd zs ((zs.length - 1 - k : Nat) : Int) = x at hx HS
      obtain ⟨fn, tmps, assign, body, hy, hR⟩ := hY _ x wr hJs (by rw [hlen]; exact hlt)
      have HH := Lib.hid hlen
      clear hlen hCr
      gi_wp2
      refine hR.mono ?_
      rintro e W3 (⟨rfl, hJ3, hk3⟩ | ⟨rfl, hJx3⟩)
      · gi_wp2
        go_roundw
        case rel => exact ⟨k + 1, by omega, by go_num, by rw [HS.out]; exact hJ3, ⟨HB.out.trans hk3.1⟩, ⟨hk3.2 _ HO.out⟩⟩
        case measure => simp [intOf]; omega
      · gi_wp2
        refine bodyPost_ret (results_none rfl _ _ _) rfl ?_
        exact ⟨⟨_, rfl⟩, .inr ⟨_, trivial, hJx3⟩⟩
    · obtain rfl : k = m := by omega
      gi_wp2
      go_end0
      exact ⟨⟨_, rfl⟩, .inl ⟨_, rfl, hJs⟩⟩

set_option maxHeartbeats 1000000 in
/-- order.back: the row and the number are boxed; the function value captures the boxes. -/
theorem back_in (F : Fence) (n : Nat) (h55 : F.fn 55) (hro : F.round = none) (A : Option Addr) (len cap : Nat) (m : Int) (w : World) :
    CallsIn F n Try.prog 55 #[.slice A len cap, .int .i64 m] w fun e w' => e = .returned (.func (.func 66) #[] #[.pointer (some ⟨w.heap.size + 1, 0, none⟩), .pointer (some ⟨w.heap.size, 0, none⟩)]) ∧ w' = (w.alloc (.cells #[.slice A len cap] 74)).alloc (.cells #[.int .i64 m] 3) := by
  refine callsIn_of_wp Try.func55 rfl h55 ?_ hro
  simp only [Try.ntmps55, List.size_toArray, List.length_cons, List.length_nil, Nat.reduceAdd, Nat.reduceSub, Array.replicate_succ, Array.replicate_zero, List.push_toArray, List.append_toArray, List.nil_append, List.cons_append]
  gi_wp2
  go_ret
  exact ⟨rfl, rfl⟩

theorem back_stops (F : Fence) (n : Nat) (h66 : F.fn 66) (hro : F.round = none) (hn : 1 ≤ n) (Bn Bo n₀ : Nat) (A : Option Addr) (cap m : Nat) (zs : List Int) (w₀ w : World) (hn₀ : n₀ = w₀.heap.size) (hb : Below n₀ w₀ w)
    (hC : Kd.C (Kd.int .i64) w₀ A zs.length zs) (hm : m ≤ zs.length) (hl : zs.length ≤ 1000) (hBn : w.cell? ⟨Bn, 0, none⟩ = some (.int .i64 m)) (hBnl : Bn < w.heap.size) (hBo : Boxed w Bo 74 (.slice A zs.length cap)) :
    SeqStopsK F n Try.prog 66 #[.pointer (some ⟨Bn, 0, none⟩), .pointer (some ⟨Bo, 0, none⟩)] (fun x : Int => #[Value.int .i64 x]) (KpB n₀ Bo 74) (fun ys => ys = bk zs m) (fun _ => True) m w := fun l J Jx W hW _ _ hY h0 =>
  back1_in F n h66 hro hn l Bn Bo n₀ A cap m zs w₀ hn₀ hC hm hl J Jx hY W (hb.trans (hW.mono (hn₀ ▸ hb.size))) ((hW.cell (p := ⟨Bn, 0, none⟩) hBnl).trans hBn) ((hW.block Bo hBo.lt).trans hBo) h0

end Go.Proofs.Ytnkkedkkjmehpaa.ELru
