/- The contract of bpdu.Parse, over the turned program (by hand). Written by mktbp.py. -/
import Derived.Test.YtnikfjfcbpeieaaMTTb
import Derived.Lib.ConvBytes
import Derived.Outline
import Derived.RegionTactic
import Derived.ChangeAlike
import Derived.Lib.Hide
import Derived.Lib.LazyBuf
import Derived.Deep.RegionHeld3
import Derived.OrdersHeld
import Derived.Laws.NewBlocks
section
namespace Go.Proofs.Ytnikfjfcbpeieaa.EBp
open Go.RowKit Go.Conc Go.Proofs.Ytnikfjfcbpeieaa.PBq Go.Proofs.Ytnikfjfcbpeieaa.EFrame Go.Proofs.YtnikfjfcbpeieaaW.PrintWords Go.Proofs.YtnikfjfcbpeieaaW.PrintLast Go.Proofs.YtnikfjfcbpeieaaW.PrintMore
set_option linter.unusedVariables false
set_option linter.unusedSimpArgs false
def n1 (s : ByteArray) (i : Int) : Int := bt s i
def n2 (s : ByteArray) (i : Int) : Int := bt s i * 256 + bt s (i + 1)
def n4 (s : ByteArray) (i : Int) : Int := bt s i * 16777216 + bt s (i + 1) * 65536 + bt s (i + 2) * 256 + bt s (i + 3)
def bpdu_Parse.f (s : ByteArray) : Option (Int × Int × Int × Int × Int × Int) :=
 if s.size < 12 then some (0, 0, 0, 0, 0, 7) else (if 12 < s.size then (if s.size ≤ 1000 then some (0, 0, 0, 0, 0, 8) else none) else (if (nums s 0 12).sum % 256 = 0 then
  (if bt s 0 = 0 then ((bpdu_Right.f (n2 s 1) (n4 s 3) (n2 s 7) (n1 s 9) (n1 s 10)).bind fun r => if r = true then some (n2 s 1, n4 s 3, n2 s 7, n1 s 9, n1 s 10, 0) else some (0, 0, 0, 0, 0, 10)) else some (0, 0, 0, 0, 0, 10)) else some (0, 0, 0, 0, 0, 9)))
set_option maxRecDepth 100000 in
set_option maxHeartbeats 2000000 in
theorem at_1 (B B1 cp : Nat) (s : ByteArray) (hs : s.size = 12) (hcp : 12 ≤ cp) (w : World) (H : Held w B s) (hb : w.cell? ⟨B1, 0, none⟩ = some (.slice (some ⟨B, 0, none⟩) 12 cp)) : Calls Tq.prog 69 #[.int .i64 1, .int .i64 3, .pointer (some ⟨B1, 0, none⟩)] w fun e w' => e = .returned (.int .i64 (n2 s 1)) ∧ ∃ nd, w' = w.drewN nd := by
 have h1 : w.cell? ⟨B, 1, none⟩ = some (.int .u8 (bt s 1)) := H 1 (by omega)
 have h2 : w.cell? ⟨B, 2, none⟩ = some (.int .u8 (bt s 2)) := H 2 (by omega)
 have e1 : bits .or .i64 0 (wrap64 (bt s 1)) = bt s 1 := by have := or_byte 0 (bt s 1) (by omega) (by omega) (bt_range s 1).1 (bt_range s 1).2; rw [show wrap64 (0 * 256) = 0 from by unfold wrap64; omega] at this; omega
 have e2 : bits .or .i64 (wrap64 ((bt s 1) * 256)) (wrap64 (bt s 2)) = (bt s 1) * 256 + bt s 2 := by
  have q := fun i => bt_range s i
  have q0 := q 1
  have q1 := q 2
  have q2 := q 3
  have q3 := q 4
  exact or_byte (bt s 1) (bt s 2) (by omega) (by omega) q1.1 q1.2
 have c1 : (3 : Int) ≤ (cp : Int) := by omega
 go_enter Tq.func69, Tq.ntmps69
 go_wp2
 refine wp_loop_rounds 4 ?_
 rw [rounds_succ]
 go_wp2
 rw [rounds_succ]
 go_wp2
 rw [rounds_succ]
 go_wp2
 go_ret
 simp only [e1, e2]
 refine ⟨congrArg Ending.returned (show Value.int .i64 _ = Value.int .i64 _ from ?_), 0, rfl⟩
 simp only [n2, Int.reduceAdd]
 (try (congr 1; omega))
set_option maxRecDepth 100000 in
set_option maxHeartbeats 2000000 in
theorem at_3 (B B1 cp : Nat) (s : ByteArray) (hs : s.size = 12) (hcp : 12 ≤ cp) (w : World) (H : Held w B s) (hb : w.cell? ⟨B1, 0, none⟩ = some (.slice (some ⟨B, 0, none⟩) 12 cp)) : Calls Tq.prog 69 #[.int .i64 3, .int .i64 7, .pointer (some ⟨B1, 0, none⟩)] w fun e w' => e = .returned (.int .i64 (n4 s 3)) ∧ ∃ nd, w' = w.drewN nd := by
 have h3 : w.cell? ⟨B, 3, none⟩ = some (.int .u8 (bt s 3)) := H 3 (by omega)
 have h4 : w.cell? ⟨B, 4, none⟩ = some (.int .u8 (bt s 4)) := H 4 (by omega)
 have h5 : w.cell? ⟨B, 5, none⟩ = some (.int .u8 (bt s 5)) := H 5 (by omega)
 have h6 : w.cell? ⟨B, 6, none⟩ = some (.int .u8 (bt s 6)) := H 6 (by omega)
 have e3 : bits .or .i64 0 (wrap64 (bt s 3)) = bt s 3 := by have := or_byte 0 (bt s 3) (by omega) (by omega) (bt_range s 3).1 (bt_range s 3).2; rw [show wrap64 (0 * 256) = 0 from by unfold wrap64; omega] at this; omega
 have e4 : bits .or .i64 (wrap64 ((bt s 3) * 256)) (wrap64 (bt s 4)) = (bt s 3) * 256 + bt s 4 := by
  have q := fun i => bt_range s i
  have q0 := q 3
  have q1 := q 4
  have q2 := q 5
  have q3 := q 6
  exact or_byte (bt s 3) (bt s 4) (by omega) (by omega) q1.1 q1.2
 have e5 : bits .or .i64 (wrap64 (((bt s 3) * 256 + bt s 4) * 256)) (wrap64 (bt s 5)) = ((bt s 3) * 256 + bt s 4) * 256 + bt s 5 := by
  have q := fun i => bt_range s i
  have q0 := q 3
  have q1 := q 4
  have q2 := q 5
  have q3 := q 6
  exact or_byte ((bt s 3) * 256 + bt s 4) (bt s 5) (by omega) (by omega) q2.1 q2.2
 have e6 : bits .or .i64 (wrap64 ((((bt s 3) * 256 + bt s 4) * 256 + bt s 5) * 256)) (wrap64 (bt s 6)) = (((bt s 3) * 256 + bt s 4) * 256 + bt s 5) * 256 + bt s 6 := by
  have q := fun i => bt_range s i
  have q0 := q 3
  have q1 := q 4
  have q2 := q 5
  have q3 := q 6
  exact or_byte (((bt s 3) * 256 + bt s 4) * 256 + bt s 5) (bt s 6) (by omega) (by omega) q3.1 q3.2
 have c1 : (7 : Int) ≤ (cp : Int) := by omega
 go_enter Tq.func69, Tq.ntmps69
 go_wp2
 refine wp_loop_rounds 6 ?_
 rw [rounds_succ]
 go_wp2
 rw [rounds_succ]
 go_wp2
 rw [rounds_succ]
 go_wp2
 rw [rounds_succ]
 go_wp2
 rw [rounds_succ]
 go_wp2
 go_ret
 simp only [e3, e4, e5, e6]
 refine ⟨congrArg Ending.returned (show Value.int .i64 _ = Value.int .i64 _ from ?_), 0, rfl⟩
 simp only [n4, Int.reduceAdd]
 (try (congr 1; omega))
set_option maxRecDepth 100000 in
set_option maxHeartbeats 2000000 in
theorem at_7 (B B1 cp : Nat) (s : ByteArray) (hs : s.size = 12) (hcp : 12 ≤ cp) (w : World) (H : Held w B s) (hb : w.cell? ⟨B1, 0, none⟩ = some (.slice (some ⟨B, 0, none⟩) 12 cp)) : Calls Tq.prog 69 #[.int .i64 7, .int .i64 9, .pointer (some ⟨B1, 0, none⟩)] w fun e w' => e = .returned (.int .i64 (n2 s 7)) ∧ ∃ nd, w' = w.drewN nd := by
 have h7 : w.cell? ⟨B, 7, none⟩ = some (.int .u8 (bt s 7)) := H 7 (by omega)
 have h8 : w.cell? ⟨B, 8, none⟩ = some (.int .u8 (bt s 8)) := H 8 (by omega)
 have e7 : bits .or .i64 0 (wrap64 (bt s 7)) = bt s 7 := by have := or_byte 0 (bt s 7) (by omega) (by omega) (bt_range s 7).1 (bt_range s 7).2; rw [show wrap64 (0 * 256) = 0 from by unfold wrap64; omega] at this; omega
 have e8 : bits .or .i64 (wrap64 ((bt s 7) * 256)) (wrap64 (bt s 8)) = (bt s 7) * 256 + bt s 8 := by
  have q := fun i => bt_range s i
  have q0 := q 7
  have q1 := q 8
  have q2 := q 9
  have q3 := q 10
  exact or_byte (bt s 7) (bt s 8) (by omega) (by omega) q1.1 q1.2
 have c1 : (9 : Int) ≤ (cp : Int) := by omega
 go_enter Tq.func69, Tq.ntmps69
 go_wp2
 refine wp_loop_rounds 4 ?_
 rw [rounds_succ]
 go_wp2
 rw [rounds_succ]
 go_wp2
 rw [rounds_succ]
 go_wp2
 go_ret
 simp only [e7, e8]
 refine ⟨congrArg Ending.returned (show Value.int .i64 _ = Value.int .i64 _ from ?_), 0, rfl⟩
 simp only [n2, Int.reduceAdd]
 (try (congr 1; omega))
set_option maxRecDepth 100000 in
set_option maxHeartbeats 2000000 in
theorem at_9 (B B1 cp : Nat) (s : ByteArray) (hs : s.size = 12) (hcp : 12 ≤ cp) (w : World) (H : Held w B s) (hb : w.cell? ⟨B1, 0, none⟩ = some (.slice (some ⟨B, 0, none⟩) 12 cp)) : Calls Tq.prog 69 #[.int .i64 9, .int .i64 10, .pointer (some ⟨B1, 0, none⟩)] w fun e w' => e = .returned (.int .i64 (n1 s 9)) ∧ ∃ nd, w' = w.drewN nd := by
 have h9 : w.cell? ⟨B, 9, none⟩ = some (.int .u8 (bt s 9)) := H 9 (by omega)
 have e9 : bits .or .i64 0 (wrap64 (bt s 9)) = bt s 9 := by have := or_byte 0 (bt s 9) (by omega) (by omega) (bt_range s 9).1 (bt_range s 9).2; rw [show wrap64 (0 * 256) = 0 from by unfold wrap64; omega] at this; omega
 have c1 : (10 : Int) ≤ (cp : Int) := by omega
 go_enter Tq.func69, Tq.ntmps69
 go_wp2
 refine wp_loop_rounds 3 ?_
 rw [rounds_succ]
 go_wp2
 rw [rounds_succ]
 go_wp2
 go_ret
 simp only [e9]
 refine ⟨congrArg Ending.returned (show Value.int .i64 _ = Value.int .i64 _ from ?_), 0, rfl⟩
 simp only [n1, Int.reduceAdd]
 (try (congr 1; omega))
set_option maxRecDepth 100000 in
set_option maxHeartbeats 2000000 in
theorem at_10 (B B1 cp : Nat) (s : ByteArray) (hs : s.size = 12) (hcp : 12 ≤ cp) (w : World) (H : Held w B s) (hb : w.cell? ⟨B1, 0, none⟩ = some (.slice (some ⟨B, 0, none⟩) 12 cp)) : Calls Tq.prog 69 #[.int .i64 10, .int .i64 11, .pointer (some ⟨B1, 0, none⟩)] w fun e w' => e = .returned (.int .i64 (n1 s 10)) ∧ ∃ nd, w' = w.drewN nd := by
 have h10 : w.cell? ⟨B, 10, none⟩ = some (.int .u8 (bt s 10)) := H 10 (by omega)
 have e10 : bits .or .i64 0 (wrap64 (bt s 10)) = bt s 10 := by have := or_byte 0 (bt s 10) (by omega) (by omega) (bt_range s 10).1 (bt_range s 10).2; rw [show wrap64 (0 * 256) = 0 from by unfold wrap64; omega] at this; omega
 have c1 : (11 : Int) ≤ (cp : Int) := by omega
 go_enter Tq.func69, Tq.ntmps69
 go_wp2
 refine wp_loop_rounds 3 ?_
 rw [rounds_succ]
 go_wp2
 rw [rounds_succ]
 go_wp2
 go_ret
 simp only [e10]
 refine ⟨congrArg Ending.returned (show Value.int .i64 _ = Value.int .i64 _ from ?_), 0, rfl⟩
 simp only [n1, Int.reduceAdd]
 (try (congr 1; omega))
structure PW (w : World) (s : ByteArray) (cp B1 : Nat) (W : World) : Prop where
 blk : W.heap[w.heap.size]? = some (.cells #[.int .i64 0, .int .i64 0, .int .i64 0, .int .i64 0, .int .i64 0] 52)
 held : Held W (w.heap.size + 1) s
 b : W.cell? ⟨B1, 0, none⟩ = some (.slice (some ⟨w.heap.size + 1, 0, none⟩) s.size cp)
 below : Below w.heap.size w W
 lt : w.heap.size + 1 < W.heap.size
 ltb : B1 < W.heap.size
theorem PW.next {w W W' : World} {s : ByteArray} {cp B1 : Nat} (h : PW w s cp B1 W) (hb : Below W.heap.size W W') : PW w s cp B1 W' :=
 ⟨(hb.block _ (by have := h.lt; omega)).trans h.blk, fun j hj => (hb.cell (p := ⟨w.heap.size + 1, j, none⟩) h.lt).trans (h.held j hj), (hb.cell (p := ⟨B1, 0, none⟩) h.ltb).trans h.b, below_step h.below hb, Nat.lt_of_lt_of_le h.lt hb.size, Nat.lt_of_lt_of_le h.ltb hb.size⟩
theorem PW.drew {w W : World} {s : ByteArray} {cp B1 : Nat} (h : PW w s cp B1 W) (n : Nat) : PW w s cp B1 (W.drewN n) := h.next (pw_below_drewN (Below.refl _ _) n)
theorem PW.z {w W : World} {s : ByteArray} {cp B1 : Nat} (h : PW w s cp B1 W) : W.cell? ⟨w.heap.size, 0, none⟩ = some (.int .i64 0) ∧ W.cell? ⟨w.heap.size, 1, none⟩ = some (.int .i64 0) ∧ W.cell? ⟨w.heap.size, 2, none⟩ = some (.int .i64 0) ∧ W.cell? ⟨w.heap.size, 3, none⟩ = some (.int .i64 0) ∧ W.cell? ⟨w.heap.size, 4, none⟩ = some (.int .i64 0) := by
 simp [World.cell?, h.blk]
theorem PW.f {w W : World} {s : ByteArray} {cp B1 : Nat} (h : PW w s cp B1 W) : W.frozen? ⟨w.heap.size, 0, none⟩ = false ∧ W.frozen? ⟨w.heap.size, 1, none⟩ = false ∧ W.frozen? ⟨w.heap.size, 2, none⟩ = false ∧ W.frozen? ⟨w.heap.size, 3, none⟩ = false ∧ W.frozen? ⟨w.heap.size, 4, none⟩ = false := by
 simp [World.frozen?, h.blk]
noncomputable def c41 : Code := Try.f41.body.getD .skip
set_option maxRecDepth 100000 in
set_option maxHeartbeats 4000000 in
theorem parse_from (s : ByteArray) (w : World) (hs : s.size ≤ 1000) {R : Ending → World → Prop}
  (h : ∀ (cp B1 : Nat) (W : World), s.size ≤ cp → PW w s cp B1 W → Code.wp Tq.prog (cR (cR c41)) (bodyPost Tq.prog Try.f41 R) ⟨#[.string s, undef, .pointer (some ⟨w.heap.size, 0, none⟩), .int .i64 0, .pointer (some ⟨B1, 0, none⟩), undef, undef, .string s, .slice (some ⟨w.heap.size + 1, 0, none⟩) s.size cp, undef, undef, undef, undef, undef, undef, undef, undef, undef, undef, undef, undef, undef, undef, undef, undef, undef, undef, undef, undef, undef, undef, undef, undef, undef, undef, undef, undef, undef, undef, undef, undef, undef, undef, undef, undef, undef, undef, undef], []⟩ W) :
  Calls Tq.prog 41 #[.string s] w R := by
 obtain ⟨cp, W1, hcv, hcp, HC0, HB0, HZ⟩ := conv_bytes (w.alloc (.cells #[.int .i64 0, .int .i64 0, .int .i64 0, .int .i64 0, .int .i64 0] 52)) s hs
 rw [World.size_alloc] at hcv HC0 HZ
 have hx := h cp W1.heap.size (W1.alloc (.cells #[.slice (some ⟨w.heap.size + 1, 0, none⟩) s.size cp] 35)) hcp
  ⟨blk_alloc (blk_below (blk_new w _) HB0) _, fun j hj => (World.cell?_alloc_past (w := W1) _ _ j HZ).trans (HC0 j hj), World.cell?_alloc_at _ _ _ _ rfl, below_alloc (below_step ((Below.refl w.heap.size w).alloc (Nat.le_refl _) _) HB0) _, by rw [World.size_alloc]; omega, by rw [World.size_alloc]; omega⟩
 clear h HC0 HB0
 generalize hrest : cR (cR c41) = rest at hx
 have e : c41 = .seq (cL c41) (.seq (cL (cR c41)) rest) := by rw [← hrest]; kernel_rfl
 refine calls_of_wp Tq.func41 (show Try.f41.body = some c41 from by rfl) ?_
 rw [e, Tq.ntmps41]
 generalize bodyPost Tq.prog Try.f41 R = Q at hx ⊢
 simp only [c41, Try.f41, Option.getD_some, cL, cR, List.size_toArray, List.length_cons, List.length_nil, Nat.reduceAdd, Nat.reduceSub, Array.replicate_succ,
   Array.replicate_zero, List.push_toArray, List.append_toArray, List.nil_append, List.cons_append]
 clear e hrest
 go_wp2_with fail
set_option maxRecDepth 100000 in
set_option maxHeartbeats 4000000 in
theorem parse_short (s : ByteArray) (w : World) (h : s.size < 12) :
  Calls Tq.prog 41 #[.string s] w fun e w' => e = .returned (.tuple #[.agg #[.int .i64 0, .int .i64 0, .int .i64 0, .int .i64 0, .int .i64 0], .int .i64 7]) ∧ Below w.heap.size w w' := by
 refine parse_from s w (by omega) fun cp B1 W hcp hW => ?_
 have d0 : decide ((s.size : Int) < 12) = true := decide_eq_true (by omega)
 have d2 : decide (s.size < 12) = true := decide_eq_true (by omega)
 have hb := hW.b
 obtain ⟨z0, z1, z2, z3, z4⟩ := hW.z
 obtain ⟨f0, f1, f2, f3, f4⟩ := hW.f
 have BK := hW.blk
 have HF := hW.below
 clear hW
 generalize hQ : bodyPost Tq.prog Try.f41 (fun e w' => e = .returned (.tuple #[.agg #[.int .i64 0, .int .i64 0, .int .i64 0, .int .i64 0, .int .i64 0], .int .i64 7]) ∧ Below w.heap.size w w') = Q
 simp only [c41, Try.f41, Option.getD_some, cR]
 go_wp2_with fail
 rw [← hQ]
 refine bodyPost_ret (results_ct rfl _ _ w.heap.size 52 #[.int .i64 0, .int .i64 0, .int .i64 0, .int .i64 0, .int .i64 0] (0, 0) _ rfl (by exact blk_set (blk_set (blk_set (blk_set (blk_set BK 0 _) 1 _) 2 _) 3 _) 4 _) Tq.underlying52 rfl (by kernel_rfl)) rfl ?_
 exact ⟨rfl, by repeat (first | (with_reducible first | exact HF | apply below_alloc | apply pw_below_drewN | apply below_drew1 | refine below_set ?_ (Nat.le_refl _)) | exact HF)⟩
set_option maxRecDepth 100000 in
set_option maxHeartbeats 4000000 in
theorem parse_long (s : ByteArray) (w : World) (h : 12 < s.size) (h2 : s.size ≤ 1000) :
  Calls Tq.prog 41 #[.string s] w fun e w' => e = .returned (.tuple #[.agg #[.int .i64 0, .int .i64 0, .int .i64 0, .int .i64 0, .int .i64 0], .int .i64 8]) ∧ Below w.heap.size w w' := by
 refine parse_from s w (by omega) fun cp B1 W hcp hW => ?_
 have d0 : decide ((s.size : Int) < 12) = false := decide_eq_false (by omega)
 have d2 : decide (s.size < 12) = false := decide_eq_false (by omega)
 have d1 : decide (12 < (s.size : Int)) = true := decide_eq_true (by omega)
 have d3 : decide (12 < s.size) = true := decide_eq_true (by omega)
 have hb := hW.b
 obtain ⟨z0, z1, z2, z3, z4⟩ := hW.z
 obtain ⟨f0, f1, f2, f3, f4⟩ := hW.f
 have BK := hW.blk
 have HF := hW.below
 clear hW
 generalize hQ : bodyPost Tq.prog Try.f41 (fun e w' => e = .returned (.tuple #[.agg #[.int .i64 0, .int .i64 0, .int .i64 0, .int .i64 0, .int .i64 0], .int .i64 8]) ∧ Below w.heap.size w w') = Q
 simp only [c41, Try.f41, Option.getD_some, cR]
 go_wp2_with fail
 rw [← hQ]
 refine bodyPost_ret (results_ct rfl _ _ w.heap.size 52 #[.int .i64 0, .int .i64 0, .int .i64 0, .int .i64 0, .int .i64 0] (0, 0) _ rfl (by exact blk_set (blk_set (blk_set (blk_set (blk_set BK 0 _) 1 _) 2 _) 3 _) 4 _) Tq.underlying52 rfl (by kernel_rfl)) rfl ?_
 exact ⟨rfl, by repeat (first | (with_reducible first | exact HF | apply below_alloc | apply pw_below_drewN | apply below_drew1 | refine below_set ?_ (Nat.le_refl _)) | exact HF)⟩
theorem held_C {W : World} {B : Nat} {s : ByteArray} (hs : s.size = 12) (H : Held W B s) : Kd.C (Kd.int .u8) W (some ⟨B, 0, none⟩) 12 (nums s 0 12) := by
 have hl := nums_len s 0 12 (by omega)
 have := cells_C W B 0 (nums s 0 12) (by omega) ?_
 ·rw [hl] at this; exact this
 ·intro j p hj
  have hjm : j < 12 := by rw [← hl]; exact (List.getElem?_eq_some_iff.1 hj).1
  have h1 := H j (by omega)
  rw [Nat.zero_add, h1, ← bt_data]
  congr 2
  unfold EFrame.nums at hj
  rw [List.getElem?_map, List.getElem?_take_of_lt hjm, List.getElem?_drop, Nat.zero_add] at hj
  rw [List.getD_eq_getElem?_getD]
  cases he : s.data.toList[j]? with
  | none => rw [he] at hj; cases hj
  | some u => rw [he] at hj; exact Option.some.inj hj
theorem sum_at {W : World} {B cp : Nat} {s : ByteArray} (hs : s.size = 12) (hcp : 12 ≤ cp) (H : Held W B s) : Calls Tq.prog 68 #[.slice (some ⟨B, 0, none⟩) 12 cp] W fun e w' => e = .returned (.int .u8 ((nums s 0 12).sum % 256)) ∧ Below W.heap.size W w' := by
 have hl := nums_len s 0 12 (by omega)
 have hf : bpdu_sum.f (nums s 0 12) = some ((nums s 0 12).sum % 256) := by
  have hall : ∀ x ∈ nums s 0 12, 0 ≤ x ∧ x < 256 := by
   intro x hx
   obtain ⟨u, _, rfl⟩ := List.mem_map.1 hx
   have := u.toNat_lt
   omega
  unfold bpdu_sum.f
  rw [if_pos ⟨hall, by omega⟩]
 have := bpdu_sum.calls (some ⟨B, 0, none⟩) cp (nums s 0 12) _ W (by rw [hl]; exact held_C hs H) (by omega) hf
 rw [hl] at this
 exact this
set_option maxRecDepth 100000 in
set_option maxHeartbeats 4000000 in
theorem parse_bad (s : ByteArray) (w : World) (hs : s.size = 12) (hsum : ¬ (nums s 0 12).sum % 256 = 0) :
  Calls Tq.prog 41 #[.string s] w fun e w' => e = .returned (.tuple #[.agg #[.int .i64 0, .int .i64 0, .int .i64 0, .int .i64 0, .int .i64 0], .int .i64 9]) ∧ Below w.heap.size w w' := by
 refine parse_from s w (by omega) fun cp B1 W hcp hW => ?_
 rw [hs] at hcp ⊢
 have hb := hW.b
 rw [hs] at hb
 have HS := sum_at hs hcp hW.held
 generalize hQ : bodyPost Tq.prog Try.f41 (fun e w' => e = .returned (.tuple #[.agg #[.int .i64 0, .int .i64 0, .int .i64 0, .int .i64 0, .int .i64 0], .int .i64 9]) ∧ Below w.heap.size w w') = Q
 simp only [c41, Try.f41, Option.getD_some, cR]
 go_wp2_with fail
 refine HS.mono ?_
 rintro e w' ⟨rfl, hbl⟩
 have hW2 := hW.next hbl
 clear HS hb hW hbl
 have hb := hW2.b
 rw [hs] at hb
 obtain ⟨z0, z1, z2, z3, z4⟩ := hW2.z
 obtain ⟨f0, f1, f2, f3, f4⟩ := hW2.f
 have BK := hW2.blk
 have HF := hW2.below
 generalize (nums s 0 12).sum % 256 = x at hsum ⊢
 go_wp2_with fail
 rw [← hQ]
 refine bodyPost_ret (results_ct rfl _ _ w.heap.size 52 #[.int .i64 0, .int .i64 0, .int .i64 0, .int .i64 0, .int .i64 0] (0, 0) _ rfl (by exact blk_set (blk_set (blk_set (blk_set (blk_set BK 0 _) 1 _) 2 _) 3 _) 4 _) Tq.underlying52 rfl (by kernel_rfl)) rfl ?_
 exact ⟨rfl, by repeat (first | (with_reducible first | exact HF | apply below_alloc | apply pw_below_drewN | apply below_drew1 | refine below_set ?_ (Nat.le_refl _)) | exact HF)⟩
set_option maxRecDepth 100000 in
set_option maxHeartbeats 8000000 in
theorem parse_mid (s : ByteArray) (w : World) (hs : s.size = 12) (hsum : (nums s 0 12).sum % 256 = 0) (r : Bool) (hr : bt s 0 = 0 → bpdu_Right.f (n2 s 1) (n4 s 3) (n2 s 7) (n1 s 9) (n1 s 10) = some r) (hr0 : bt s 0 ≠ 0 → r = false) :
  Calls Tq.prog 41 #[.string s] w fun e w' => e = .returned (if r = true then .tuple #[.agg #[.int .i64 (n2 s 1), .int .i64 (n4 s 3), .int .i64 (n2 s 7), .int .i64 (n1 s 9), .int .i64 (n1 s 10)], .int .i64 0] else .tuple #[.agg #[.int .i64 0, .int .i64 0, .int .i64 0, .int .i64 0, .int .i64 0], .int .i64 10]) ∧ Below w.heap.size w w' := by
 refine parse_from s w (by omega) fun cp B1 W hcp hW => ?_
 rw [hs] at hcp ⊢
 have hb := hW.b
 rw [hs] at hb
 have HS := sum_at hs hcp hW.held
 generalize hQ : bodyPost Tq.prog Try.f41 _ = Q
 simp only [c41, Try.f41, Option.getD_some, cR]
 go_wp2_with fail
 refine HS.mono ?_
 rintro e w' ⟨rfl, hbl⟩
 rw [hsum]
 have hW2 := hW.next hbl
 clear HS hb hW hbl
 have hb := hW2.b
 rw [hs] at hb
 go_wp2_with fail
 refine (at_1 _ _ cp s hs hcp _ hW2.held hb).mono ?_
 rintro e x0 ⟨rfl, ⟨m0_, rfl⟩⟩
 have hX0 := hW2.drew m0_
 generalize World.drewN w' m0_ = x0 at hX0 ⊢
 clear hW2 hb
 have hb := hX0.b
 rw [hs] at hb
 go_wp2_with fail
 refine (at_3 _ _ cp s hs hcp _ hX0.held hb).mono ?_
 rintro e x1 ⟨rfl, ⟨m1_, rfl⟩⟩
 have hX1 := hX0.drew m1_
 generalize World.drewN x0 m1_ = x1 at hX1 ⊢
 clear hX0 hb
 have hb := hX1.b
 rw [hs] at hb
 go_wp2_with fail
 refine (at_7 _ _ cp s hs hcp _ hX1.held hb).mono ?_
 rintro e x2 ⟨rfl, ⟨m2_, rfl⟩⟩
 have hX2 := hX1.drew m2_
 generalize World.drewN x1 m2_ = x2 at hX2 ⊢
 clear hX1 hb
 have hb := hX2.b
 rw [hs] at hb
 go_wp2_with fail
 refine (at_9 _ _ cp s hs hcp _ hX2.held hb).mono ?_
 rintro e x3 ⟨rfl, ⟨m3_, rfl⟩⟩
 have hX3 := hX2.drew m3_
 generalize World.drewN x2 m3_ = x3 at hX3 ⊢
 clear hX2 hb
 have hb := hX3.b
 rw [hs] at hb
 go_wp2_with fail
 refine (at_10 _ _ cp s hs hcp _ hX3.held hb).mono ?_
 rintro e W3 ⟨rfl, ⟨m4_, rfl⟩⟩
 have hW3 := hX3.drew m4_
 generalize World.drewN x3 m4_ = W3 at hW3 ⊢
 clear hX3 hb
 have hb := hW3.b
 rw [hs] at hb
 have h0 : W3.cell? ⟨w.heap.size + 1, 0, none⟩ = some (.int .u8 (bt s 0)) := hW3.held 0 (by omega)
 have hlt := hW3.lt
 have hltb := hW3.ltb
 have hB1 : ∀ c t i, (W3.alloc (.cells c t)).cell? ⟨W3.heap.size, i, none⟩ = c[i]? := fun c t i => World.cell?_alloc_at c t _ i rfl
 have hB2 : ∀ c t i, (W3.alloc (.cells c t)).frozen? ⟨W3.heap.size, i, none⟩ = false := fun c t i => World.frozen?_alloc_at c t _ i rfl
 have hB3 : ∀ o i, (W3.alloc o).cell? ⟨w.heap.size + 1, i, none⟩ = W3.cell? ⟨w.heap.size + 1, i, none⟩ := fun o i => World.cell?_alloc_past (w := W3) o _ i hlt
 have hB5 : ∀ o i, (W3.alloc o).cell? ⟨B1, i, none⟩ = W3.cell? ⟨B1, i, none⟩ := fun o i => World.cell?_alloc_past (w := W3) o _ i hltb
 have hB4 : ∀ c t i v, (W3.alloc (.cells c t)).setCell ⟨W3.heap.size, i, none⟩ v = W3.alloc (.cells (c.setIfInBounds i v) t) := fun c t i v => World.setCell_alloc_at c t _ i v rfl
 have c0 : (0 : Int) < (12 : Int) := by omega
 have hl0 : w.heap.size < W3.heap.size := by omega
 have hX0 : ∀ c, (W3.alloc (.cells c 52)).heap.size = W3.heap.size + 1 := fun c => by rw [World.size_alloc]
 have hZ : ∀ c j, (W3.alloc (.cells c 52)).cell? ⟨w.heap.size, j, none⟩ = W3.cell? ⟨w.heap.size, j, none⟩ := fun c j => World.cell?_alloc_past (w := W3) _ _ j hl0
 have hZf : ∀ c j, (W3.alloc (.cells c 52)).frozen? ⟨w.heap.size, j, none⟩ = W3.frozen? ⟨w.heap.size, j, none⟩ := fun c j => World.frozen?_alloc_past (w := W3) _ _ j hl0
 by_cases h00 : bt s 0 = 0
 ·rw [h00] at h0
  have hr' := hr h00
  go_wp2_with fail
  refine (bpdu_Right.calls _ _ _ _ _ r _ hr').mono ?_
  rintro e w4 ⟨rfl, hb4⟩
  have q : ∀ i, w4.cell? ⟨W3.heap.size, i, none⟩ = (#[.int .i64 (n2 s 1), .int .i64 (n4 s 3), .int .i64 (n2 s 7), .int .i64 (n1 s 9), .int .i64 (n1 s 10)] : Array Value)[i]? := fun i => (hb4.cell (by rw [hX0]; exact Nat.lt_succ_self _)).trans (hB1 _ _ i)
  have q0 := q 0
  have q1 := q 1
  have q2 := q 2
  have q3 := q 3
  have q4 := q 4
  simp only [List.getElem?_toArray, List.getElem?_cons_zero, List.getElem?_cons_succ] at q0 q1 q2 q3 q4
  have hlt' : w.heap.size < W3.heap.size + 1 := by omega
  have BK3 := hW3.blk
  have BK : w4.heap[w.heap.size]? = some (.cells #[.int .i64 0, .int .i64 0, .int .i64 0, .int .i64 0, .int .i64 0] 52) := blk_below (blk_alloc BK3 _) hb4
  have HF : Below w.heap.size w w4 := below_step (below_alloc hW3.below _) hb4
  have z : ∀ i, w4.cell? ⟨w.heap.size, i, none⟩ = (#[.int .i64 0, .int .i64 0, .int .i64 0, .int .i64 0, .int .i64 0] : Array Value)[i]? := fun i => by simp [World.cell?, BK]
  have f : ∀ i, w4.frozen? ⟨w.heap.size, i, none⟩ = false := fun i => by simp [World.frozen?, BK]
  have z0 := z 0
  have z1 := z 1
  have z2 := z 2
  have z3 := z 3
  have z4 := z 4
  simp only [List.getElem?_toArray, List.getElem?_cons_zero, List.getElem?_cons_succ] at z0 z1 z2 z3 z4
  have f0 := f 0
  have f1 := f 1
  have f2 := f 2
  have f3 := f 3
  have f4 := f 4
  clear z f q hb4 hB1 hB2 hB3 hB4 hB5 hX0 hZ hZf h0 hb hW3 BK3 hr hr' hr0
  generalize n2 s 1 = y1 at hQ q0 ⊢
  generalize n4 s 3 = y2 at hQ q1 ⊢
  generalize n2 s 7 = y3 at hQ q2 ⊢
  generalize n1 s 9 = y4 at hQ q3 ⊢
  generalize n1 s 10 = y5 at hQ q4 ⊢
  cases r
  ·go_wp2_with fail
   rw [← hQ]
   refine bodyPost_ret (results_ct rfl _ _ w.heap.size 52 #[.int .i64 0, .int .i64 0, .int .i64 0, .int .i64 0, .int .i64 0] (0, 0) _ rfl (by exact blk_set (blk_set (blk_set (blk_set (blk_set BK 0 _) 1 _) 2 _) 3 _) 4 _) Tq.underlying52 rfl (by kernel_rfl)) rfl ?_
   exact ⟨rfl, by repeat (first | (with_reducible first | exact HF | apply below_alloc | apply pw_below_drewN | apply below_drew1 | refine below_set ?_ (Nat.le_refl _)) | exact HF)⟩
  ·go_wp2_with fail
   rw [← hQ]
   refine bodyPost_ret (results_ct rfl _ _ w.heap.size 52 #[.int .i64 y1, .int .i64 y2, .int .i64 y3, .int .i64 y4, .int .i64 y5] (0, 0) _ rfl (by exact blk_set (blk_set (blk_set (blk_set (blk_set BK 0 _) 1 _) 2 _) 3 _) 4 _) Tq.underlying52 rfl (by kernel_rfl)) rfl ?_
   exact ⟨rfl, by repeat (first | (with_reducible first | exact HF | apply below_alloc | apply pw_below_drewN | apply below_drew1 | refine below_set ?_ (Nat.le_refl _)) | exact HF)⟩
 ·have hr' := hr0 h00
  subst hr'
  obtain ⟨z0, z1, z2, z3, z4⟩ := hW3.z
  obtain ⟨f0, f1, f2, f3, f4⟩ := hW3.f
  have BK3 := hW3.blk
  have HF3 := hW3.below
  have e0 : (bt s 0 != 0) = true := by simpa using h00
  generalize bt s 0 = x0 at h0 e0
  have HF := HF3
  go_wp2_with fail
  rw [← hQ]
  refine bodyPost_ret (results_ct rfl _ _ w.heap.size 52 #[.int .i64 0, .int .i64 0, .int .i64 0, .int .i64 0, .int .i64 0] (0, 0) _ rfl (by refine blk_alloc ?_ _; exact blk_set (blk_set (blk_set (blk_set (blk_set BK3 0 _) 1 _) 2 _) 3 _) 4 _) Tq.underlying52 rfl (by kernel_rfl)) rfl ?_
  exact ⟨rfl, by repeat (first | (with_reducible first | exact HF | apply below_alloc | apply pw_below_drewN | apply below_drew1 | refine below_set ?_ (Nat.le_refl _)) | exact HF)⟩
theorem bpdu_Parse.calls (s : ByteArray) (r1 r2 r3 r4 r5 r6 : Int) (w : World) (h : bpdu_Parse.f s = some (r1, r2, r3, r4, r5, r6)) :
  Calls Tq.prog 41 #[.string s] w fun e w' => e = .returned (.tuple #[.agg #[.int .i64 r1, .int .i64 r2, .int .i64 r3, .int .i64 r4, .int .i64 r5], .int .i64 r6]) ∧ Below w.heap.size w w' := by
 unfold bpdu_Parse.f at h
 split at h
 ·rename_i h1
  simp only [Option.some.injEq, Prod.mk.injEq] at h
  obtain ⟨rfl, rfl, rfl, rfl, rfl, rfl⟩ := h
  exact parse_short s w h1
 split at h
 ·rename_i h1 h2
  split at h
  ·rename_i h3
   simp only [Option.some.injEq, Prod.mk.injEq] at h
   obtain ⟨rfl, rfl, rfl, rfl, rfl, rfl⟩ := h
   exact parse_long s w h2 h3
  ·cases h
 rename_i h1 h2
 have hs : s.size = 12 := by omega
 split at h
 ·rename_i h3
  split at h
  ·rename_i h4
   obtain ⟨r, hr, h⟩ := Option.bind_eq_some_iff.mp h
   have := parse_mid s w hs h3 r (fun _ => hr) (fun h5 => absurd h4 h5)
   cases r <;> simp only [if_true, Bool.false_eq_true, if_false, Option.some.injEq, Prod.mk.injEq] at h this <;> obtain ⟨rfl, rfl, rfl, rfl, rfl, rfl⟩ := h <;> exact this
  ·rename_i h4
   simp only [Option.some.injEq, Prod.mk.injEq] at h
   obtain ⟨rfl, rfl, rfl, rfl, rfl, rfl⟩ := h
   have := parse_mid s w hs h3 false (fun h5 => absurd h5 h4) (fun _ => rfl)
   simpa using this
 ·rename_i h3
  simp only [Option.some.injEq, Prod.mk.injEq] at h
  obtain ⟨rfl, rfl, rfl, rfl, rfl, rfl⟩ := h
  exact parse_bad s w hs h3
end Go.Proofs.Ytnikfjfcbpeieaa.EBp
end
