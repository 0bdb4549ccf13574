/- Parts, joined for the claim. -/
import Derived.Test.YtnikfjfcbpeieaaMTW
import Derived.Test.YtnikfjfcbpeieaaMTQq
import Derived.Test.YtnikfjfcbpeieaaMTTa
import Derived.Test.YtnikfjfcbpeieaaMTTe
import Derived.Test.YtnikfjfcbpeieaaMTTf
import Derived.Test.YtnikfjfcbpeieaaMTTc
import Derived.Test.YtnikfjfcbpeieaaMTP5
section
namespace Go.Proofs.Ytnikfjfcbpeieaa.PBp
open Go.RowKit Go.Proofs.Ytnikfjfcbpeieaa.PBq Go.Proofs.Ytnikfjfcbpeieaa.EFrame Go.Proofs.Ytnikfjfcbpeieaa.PBa Go.Proofs.Ytnikfjfcbpeieaa.PBb Go.Proofs.Ytnikfjfcbpeieaa.PFr Go.Proofs.Ytnikfjfcbpeieaa.EBp Go.Proofs.YtnikfjfcbpeieaaW.PrintWords Go.Proofs.YtnikfjfcbpeieaaW.PrintLast Go.Proofs.YtnikfjfcbpeieaaW.PrintMore
attribute [local go_sem] max2_int min2_int max_two min_two max_three min_three max_four min_four   -- for this text's walks alone
set_option linter.unusedVariables false
set_option linter.unusedSimpArgs false
def footwayref03_Source.f (a0 : Int) : Option (Int) := some (wrap64 (2199023321088 + a0))
set_option maxHeartbeats 8000000 in
set_option maxRecDepth 100000 in
theorem footwayref03_Source.calls (a0 : Int) (r : Int) (w : World) (h : footwayref03_Source.f a0 = some r) :
  Calls Tq.prog 82 #[.int .i64 a0] w fun e w' => e = .returned (.int .i64 r) ∧ Drawn0 w w' := by
 have H : (some (wrap64 (2199023321088 + a0))) = some r := h
 clear h
 obtain rfl := Option.some.inj H
 go_enter Tq.func82, Try.ntmps82
 go_wp2
 go_ret
 exact ⟨by first | rfl | (simp; done) | (simp [*]; done), by repeat (first | exact Drawn0.refl _ | apply Drawn0.step)⟩
def footwayref03_Unwrap.j0 : Nat → Bool → Int → Int → Int → ByteArray → Option (Int × Int × Int × Int × Int × Int)
 | 0, _, _, _, _, _ => none
 | k + 1, x24, x166000, x166001, x166002, x166003 => if x24 = true then (some (0, 0, 0, 0, 0, 10)) else ((footwayref03_Parse.f k x166003).bind fun bt166 => (if bt166.2.2.2.2.2 = 0 then ((footwayref03_Source.f bt166.2.2.1).bind fun t173 => (if x166001 = t173 then (some (bt166.1, bt166.2.1, bt166.2.2.1, bt166.2.2.2.1, bt166.2.2.2.2.1, 0)) else (some (0, 0, 0, 0, 0, 10)))) else (some (0, 0, 0, 0, 0, bt166.2.2.2.2.2))))
def footwayref03_Unwrap.f (k : Nat) (a0 : ByteArray) : Option (Int × Int × Int × Int × Int × Int) := (footwayref02_Parse.f k a0).bind fun bt160 => (if bt160.2.2.2.2 = 0 then (if bt160.1 = 1652522221568 then (footwayref03_Unwrap.j0 k (bt160.2.2.1 != 32834) bt160.1 bt160.2.1 bt160.2.2.1 bt160.2.2.2.1) else (footwayref03_Unwrap.j0 k true bt160.1 bt160.2.1 bt160.2.2.1 bt160.2.2.2.1)) else (some (0, 0, 0, 0, 0, bt160.2.2.2.2)))
theorem footwayref03_Unwrap.mono_l : ∀ k, (∀ y0 y1 y2 y3 y4, LeO (footwayref03_Unwrap.j0 k y0 y1 y2 y3 y4) (footwayref03_Unwrap.j0 (k + 1) y0 y1 y2 y3 y4))
 | 0 => fun _ _ _ _ _ r h => by simp [footwayref03_Unwrap.j0] at h
 | k + 1 => by
  have ih0 := footwayref03_Unwrap.mono_l k
  ·intro y0 y1 y2 y3 y4
   unfold footwayref03_Unwrap.j0
   repeat' first
   | (with_reducible exact ih0 _ _ _ _ _)
   | (with_reducible exact footwayref02_Parse.mono _ _)
   | (with_reducible exact footwayref03_Parse.mono _ _)
   | (with_reducible exact LeO.refl _)
   | (with_reducible exact LeO.none _)
   | (with_reducible refine LeO.ite ?_ ?_)
   | (with_reducible refine LeO.bind ?_ (fun _ => ?_))
   | exact ih0 _ _ _ _ _
   | exact footwayref02_Parse.mono _ _
   | exact footwayref03_Parse.mono _ _
   | exact LeO.none _
   | refine LeO.ite ?_ ?_
   | refine LeO.bind ?_ (fun _ => ?_)
theorem footwayref03_Unwrap.mono : ∀ a0 k, LeO (footwayref03_Unwrap.f k a0) (footwayref03_Unwrap.f (k + 1) a0) := by
 intro a0 k
 have ih0 := footwayref03_Unwrap.mono_l k
 unfold footwayref03_Unwrap.f
 repeat' first
   | (with_reducible exact ih0 _ _ _ _ _)
   | (with_reducible exact footwayref02_Parse.mono _ _)
   | (with_reducible exact footwayref03_Parse.mono _ _)
   | (with_reducible exact LeO.refl _)
   | (with_reducible exact LeO.none _)
   | (with_reducible refine LeO.ite ?_ ?_)
   | (with_reducible refine LeO.bind ?_ (fun _ => ?_))
   | exact ih0 _ _ _ _ _
   | exact footwayref02_Parse.mono _ _
   | exact footwayref03_Parse.mono _ _
   | exact LeO.none _
   | refine LeO.ite ?_ ?_
   | refine LeO.bind ?_ (fun _ => ?_)
set_option maxHeartbeats 8000000 in
set_option maxRecDepth 100000 in
theorem footwayref03_Unwrap.calls (k : Nat) (a0 : ByteArray) (r1 : Int) (r2 : Int) (r3 : Int) (r4 : Int) (r5 : Int) (r6 : Int) (w : World) (h : footwayref03_Unwrap.f k a0 = some (r1, r2, r3, r4, r5, r6)) :
  Calls Tq.prog 57 #[.string a0] w fun e w' => e = .returned (.tuple #[.agg #[.int .i64 r1, .int .i64 r2, .int .i64 r3, .int .i64 r4, .int .i64 r5], .int .i64 r6]) ∧ Below w.heap.size w w' := by
 have hu52 := Tq.underlying52
 have hu23 := Tq.underlying23
 have HB := Aside0.mk (Below.refl w.heap.size w)
 have H := h
 unfold footwayref03_Unwrap.f at H
 clear h
 replace H := Option.bind_eq_some_iff.mp H
 obtain ⟨⟨t160, t161, t162, t163, t164⟩, A20, H⟩ := H
 try dsimp only at H
 have A2 := Aside0.mk A20
 clear A20
 by_cases c3 : t164 = 0
 ·rw [if_pos c3] at H
  have c3b0 : (t164 == 0) = true := beq_iff_eq.mpr c3
  have c3b1 : (t164 != 0) = false := bne_eq_false_iff_eq.mpr c3
  clear c3
  have HC4 := Aside0.mk H
  clear H
  go_enter Tq.func57, Try.ntmps57
  go_upto_region 4 with (first | ((with_reducible refine gate_dst (N := 2) rfl ?_); refine box_event ?hg (N := 2) ?hd (cs := #[.int .i64 0, .int .i64 0, .int .i64 0, .int .i64 0, .int .i64 0]) (t := 52) ?hr ?_; (case hd => rfl); (case hg => rfl); (case hr => first | (go_simp; done) | (go_simp; rfl)); intro gb159 hg w5 hbox hb; have BK159 := Aside0.mk (hbox); have GW159 := Aside0.mk ((by rw [hg]; exact (below_size (by exact bw HB.out)) : w.heap.size ≤ gb159)); have GE159 := Aside0.mk ((by rw [hg]; exact (below_size (by exact bw HB.out)) : w.heap.size ≤ gb159)); replace HB := Aside0.mk (below_step (by exact bw HB.out) hb); clear hb hbox hg) | (go_at_call 24; (with_reducible refine (footwayref02_Parse.calls k a0 t160 t161 t162 t163 t164 _ A2.out).mono ?_); rintro e w6 ⟨rfl, hb⟩; replace BK159 := Aside0.mk (blk_below (g := gb159) (o := .cells #[.int .i64 0, .int .i64 0, .int .i64 0, .int .i64 0, .int .i64 0] 52 (0, 0)) (by exact bk BK159.out rfl) hb); replace HB := Aside0.mk (below_step (by exact bw HB.out) hb); (try clear hb); (try clear hb2); (try clear hk); (try clear hi)) | ((with_reducible refine gate_dst (N := 4) rfl ?_); refine box_event ?hg (N := 4) ?hd (cs := #[.int .i64 0, .int .i64 0, .int .i64 0, .string (⟨#[]⟩ : ByteArray)]) (t := 23) ?hr ?_; (case hd => rfl); (case hg => rfl); (case hr => first | (go_simp; done) | (go_simp; rfl)); intro gb165 hg w7 hbox hb; have BK165 := Aside0.mk (hbox); have GW165 := Aside0.mk ((by rw [hg]; exact (below_size (by exact bw HB.out)) : w.heap.size ≤ gb165)); have GE165 := Aside0.mk ((by rw [hg]; exact (below_size (by exact bw HB.out)) : w.heap.size ≤ gb165)); replace HB := Aside0.mk (below_step (by exact bw HB.out) hb); have NB159_165 := Aside0.mk ((by rw [hg]; exact Nat.ne_of_lt (bl BK159.out) : gb159 ≠ gb165)); have NB165_159 := Aside0.mk ((by rw [hg]; exact Nat.ne_of_gt (bl BK159.out) : gb165 ≠ gb159)); replace BK159 := Aside0.mk (blk_below (g := gb159) (o := .cells #[.int .i64 0, .int .i64 0, .int .i64 0, .int .i64 0, .int .i64 0] 52 (0, 0)) (by exact bk BK159.out rfl) hb); clear hb hbox hg; have hnb8 := NB165_159.out; have hnc8 := NB159_165.out; obtain ⟨hcz9_0, hcz9_1, hcz9_2, hcz9_3, hfz9_0, hfz9_1, hfz9_2, hfz9_3⟩ := cs4 BK165.out))
  repeat (go_quiet (first | ((with_reducible refine gate_dst (N := 2) rfl ?_); refine box_event ?hg (N := 2) ?hd (cs := #[.int .i64 0, .int .i64 0, .int .i64 0, .int .i64 0, .int .i64 0]) (t := 52) ?hr ?_; (case hd => rfl); (case hg => rfl); (case hr => first | (go_simp; done) | (go_simp; rfl)); intro gb159 hg w5 hbox hb; have BK159 := Aside0.mk (hbox); have GW159 := Aside0.mk ((by rw [hg]; exact (below_size (by exact bw HB.out)) : w.heap.size ≤ gb159)); have GE159 := Aside0.mk ((by rw [hg]; exact (below_size (by exact bw HB.out)) : w.heap.size ≤ gb159)); replace HB := Aside0.mk (below_step (by exact bw HB.out) hb); clear hb hbox hg) | (go_at_call 24; (with_reducible refine (footwayref02_Parse.calls k a0 t160 t161 t162 t163 t164 _ A2.out).mono ?_); rintro e w6 ⟨rfl, hb⟩; replace BK159 := Aside0.mk (blk_below (g := gb159) (o := .cells #[.int .i64 0, .int .i64 0, .int .i64 0, .int .i64 0, .int .i64 0] 52 (0, 0)) (by exact bk BK159.out rfl) hb); replace HB := Aside0.mk (below_step (by exact bw HB.out) hb); (try clear hb); (try clear hb2); (try clear hk); (try clear hi)) | ((with_reducible refine gate_dst (N := 4) rfl ?_); refine box_event ?hg (N := 4) ?hd (cs := #[.int .i64 0, .int .i64 0, .int .i64 0, .string (⟨#[]⟩ : ByteArray)]) (t := 23) ?hr ?_; (case hd => rfl); (case hg => rfl); (case hr => first | (go_simp; done) | (go_simp; rfl)); intro gb165 hg w7 hbox hb; have BK165 := Aside0.mk (hbox); have GW165 := Aside0.mk ((by rw [hg]; exact (below_size (by exact bw HB.out)) : w.heap.size ≤ gb165)); have GE165 := Aside0.mk ((by rw [hg]; exact (below_size (by exact bw HB.out)) : w.heap.size ≤ gb165)); replace HB := Aside0.mk (below_step (by exact bw HB.out) hb); have NB159_165 := Aside0.mk ((by rw [hg]; exact Nat.ne_of_lt (bl BK159.out) : gb159 ≠ gb165)); have NB165_159 := Aside0.mk ((by rw [hg]; exact Nat.ne_of_gt (bl BK159.out) : gb165 ≠ gb159)); replace BK159 := Aside0.mk (blk_below (g := gb159) (o := .cells #[.int .i64 0, .int .i64 0, .int .i64 0, .int .i64 0, .int .i64 0] 52 (0, 0)) (by exact bk BK159.out rfl) hb); clear hb hbox hg; have hnb8 := NB165_159.out; have hnc8 := NB159_165.out; obtain ⟨hcz9_0, hcz9_1, hcz9_2, hcz9_3, hfz9_0, hfz9_1, hfz9_2, hfz9_3⟩ := cs4 BK165.out)); go_upto_region 4 with (first | ((with_reducible refine gate_dst (N := 2) rfl ?_); refine box_event ?hg (N := 2) ?hd (cs := #[.int .i64 0, .int .i64 0, .int .i64 0, .int .i64 0, .int .i64 0]) (t := 52) ?hr ?_; (case hd => rfl); (case hg => rfl); (case hr => first | (go_simp; done) | (go_simp; rfl)); intro gb159 hg w5 hbox hb; have BK159 := Aside0.mk (hbox); have GW159 := Aside0.mk ((by rw [hg]; exact (below_size (by exact bw HB.out)) : w.heap.size ≤ gb159)); have GE159 := Aside0.mk ((by rw [hg]; exact (below_size (by exact bw HB.out)) : w.heap.size ≤ gb159)); replace HB := Aside0.mk (below_step (by exact bw HB.out) hb); clear hb hbox hg) | (go_at_call 24; (with_reducible refine (footwayref02_Parse.calls k a0 t160 t161 t162 t163 t164 _ A2.out).mono ?_); rintro e w6 ⟨rfl, hb⟩; replace BK159 := Aside0.mk (blk_below (g := gb159) (o := .cells #[.int .i64 0, .int .i64 0, .int .i64 0, .int .i64 0, .int .i64 0] 52 (0, 0)) (by exact bk BK159.out rfl) hb); replace HB := Aside0.mk (below_step (by exact bw HB.out) hb); (try clear hb); (try clear hb2); (try clear hk); (try clear hi)) | ((with_reducible refine gate_dst (N := 4) rfl ?_); refine box_event ?hg (N := 4) ?hd (cs := #[.int .i64 0, .int .i64 0, .int .i64 0, .string (⟨#[]⟩ : ByteArray)]) (t := 23) ?hr ?_; (case hd => rfl); (case hg => rfl); (case hr => first | (go_simp; done) | (go_simp; rfl)); intro gb165 hg w7 hbox hb; have BK165 := Aside0.mk (hbox); have GW165 := Aside0.mk ((by rw [hg]; exact (below_size (by exact bw HB.out)) : w.heap.size ≤ gb165)); have GE165 := Aside0.mk ((by rw [hg]; exact (below_size (by exact bw HB.out)) : w.heap.size ≤ gb165)); replace HB := Aside0.mk (below_step (by exact bw HB.out) hb); have NB159_165 := Aside0.mk ((by rw [hg]; exact Nat.ne_of_lt (bl BK159.out) : gb159 ≠ gb165)); have NB165_159 := Aside0.mk ((by rw [hg]; exact Nat.ne_of_gt (bl BK159.out) : gb165 ≠ gb159)); replace BK159 := Aside0.mk (blk_below (g := gb159) (o := .cells #[.int .i64 0, .int .i64 0, .int .i64 0, .int .i64 0, .int .i64 0] 52 (0, 0)) (by exact bk BK159.out rfl) hb); clear hb hbox hg; have hnb8 := NB165_159.out; have hnc8 := NB159_165.out; obtain ⟨hcz9_0, hcz9_1, hcz9_2, hcz9_3, hfz9_0, hfz9_1, hfz9_2, hfz9_3⟩ := cs4 BK165.out)))
  (try simp only [Act.put, sA, sZ, sS])
  go_cut [24] (fun v24 wc => ∃ (kq : Nat) (x24_3 : Bool), v24 = .bool x24_3 ∧ Aside0 (footwayref03_Unwrap.j0 kq x24_3 t160 t161 t162 t163 = some (r1, r2, r3, r4, r5, r6)) ∧ Aside0 (kq ≤ k) ∧ Aside0 (wc.heap[gb159]? = some (.cells #[.int .i64 0, .int .i64 0, .int .i64 0, .int .i64 0, .int .i64 0] 52 (0, 0))) ∧ Aside0 (wc.heap[gb165]? = some (.cells #[.int .i64 t160, .int .i64 t161, .int .i64 t162, .string t163] 23 (0, 0))) ∧ Aside0 (Below w.heap.size w wc))
  case first =>
   have H := HC4.out
   clear HC4
   by_cases c10 : t160 = 1652522221568
   case' neg =>
    rw [if_neg c10] at H
    have c10b0 : (t160 == 1652522221568) = false := beq_eq_false_iff_ne.mpr c10
    have c10b1 : (t160 != 1652522221568) = true := bne_iff_ne.mpr c10
   case' pos =>
    rw [if_pos c10] at H
    have c10b0 : (t160 == 1652522221568) = true := beq_iff_eq.mpr c10
    have c10b1 : (t160 != 1652522221568) = false := bne_eq_false_iff_eq.mpr c10
    clear c10
   all_goals
    (first | rw [c10b0] | (simp only [i64_w, i32_w]; rw [c10b0]) | skip)
    have H' := Aside0.mk H
    clear H
    have hnb11 := NB165_159.out
    have hnc11 := NB159_165.out
    obtain ⟨hcz12_0, hcz12_1, hcz12_2, hcz12_3, hfz12_0, hfz12_1, hfz12_2, hfz12_3⟩ := cs4 BK165.out
    go_wp2
    repeat (go_quiet (fail); try go_wp2)
    go_meet
   ·case rel => exact ⟨_, ((t162 != 32834)), (by first | rfl | (simp; done) | (simp [*]; done)), H', ⟨by first | omega | exact Nat.le_refl _⟩, ⟨by exact bk BK159.out rfl⟩, ⟨by (with_reducible repeat (first | refine blk_drewN ?_ _ | refine blk_drew ?_ | refine blk_alloc ?_ _)); refine blk_put (cs := #[.int .i64 t160, .int .i64 t161, .int .i64 t162, .string (⟨#[]⟩ : ByteArray)]) ?_ 3 _ rfl; (with_reducible repeat (first | refine blk_drewN ?_ _ | refine blk_drew ?_ | refine blk_alloc ?_ _)); refine blk_put (cs := #[.int .i64 t160, .int .i64 t161, .int .i64 0, .string (⟨#[]⟩ : ByteArray)]) ?_ 2 _ rfl; (with_reducible repeat (first | refine blk_drewN ?_ _ | refine blk_drew ?_ | refine blk_alloc ?_ _)); refine blk_put (cs := #[.int .i64 t160, .int .i64 0, .int .i64 0, .string (⟨#[]⟩ : ByteArray)]) ?_ 1 _ rfl; (with_reducible repeat (first | refine blk_drewN ?_ _ | refine blk_drew ?_ | refine blk_alloc ?_ _)); refine blk_put (cs := #[.int .i64 0, .int .i64 0, .int .i64 0, .string (⟨#[]⟩ : ByteArray)]) ?_ 0 _ rfl; (with_reducible repeat (first | refine blk_drewN ?_ _ | refine blk_drew ?_ | refine blk_alloc ?_ _)); exact BK165.out⟩, ⟨by exact bw HB.out⟩⟩
   ·case rel => exact ⟨_, (true), (by first | rfl | (simp; done) | (simp [*]; done)), H', ⟨by first | omega | exact Nat.le_refl _⟩, ⟨by exact bk BK159.out rfl⟩, ⟨by (with_reducible repeat (first | refine blk_drewN ?_ _ | refine blk_drew ?_ | refine blk_alloc ?_ _)); refine blk_put (cs := #[.int .i64 t160, .int .i64 t161, .int .i64 t162, .string (⟨#[]⟩ : ByteArray)]) ?_ 3 _ rfl; (with_reducible repeat (first | refine blk_drewN ?_ _ | refine blk_drew ?_ | refine blk_alloc ?_ _)); refine blk_put (cs := #[.int .i64 t160, .int .i64 t161, .int .i64 0, .string (⟨#[]⟩ : ByteArray)]) ?_ 2 _ rfl; (with_reducible repeat (first | refine blk_drewN ?_ _ | refine blk_drew ?_ | refine blk_alloc ?_ _)); refine blk_put (cs := #[.int .i64 t160, .int .i64 0, .int .i64 0, .string (⟨#[]⟩ : ByteArray)]) ?_ 1 _ rfl; (with_reducible repeat (first | refine blk_drewN ?_ _ | refine blk_drew ?_ | refine blk_alloc ?_ _)); refine blk_put (cs := #[.int .i64 0, .int .i64 0, .int .i64 0, .string (⟨#[]⟩ : ByteArray)]) ?_ 0 _ rfl; (with_reducible repeat (first | refine blk_drewN ?_ _ | refine blk_drew ?_ | refine blk_alloc ?_ _)); exact BK165.out⟩, ⟨by exact bw HB.out⟩⟩
  case rest =>
   clear HC4
   try clear c1
   try clear p2
   try clear c3
   try clear c3b0
   try clear c3b1
   try clear c5
   try clear c8
   try clear c10
   try clear c10b0
   try clear c10b1
   try clear c11
   try clear c13
   try clear hcz12_0
   try clear hcz12_1
   try clear hcz12_2
   try clear hcz12_3
   try clear hcz14_0
   try clear hcz14_1
   try clear hcz14_2
   try clear hcz14_3
   try clear hcz9_0
   try clear hcz9_1
   try clear hcz9_2
   try clear hcz9_3
   try clear hfz12_0
   try clear hfz12_1
   try clear hfz12_2
   try clear hfz12_3
   try clear hfz14_0
   try clear hfz14_1
   try clear hfz14_2
   try clear hfz14_3
   try clear hfz9_0
   try clear hfz9_1
   try clear hfz9_2
   try clear hfz9_3
   obtain ⟨kq, x24_3, rfl, HA, HJ3, BK159, BK165, HB⟩ := hcut
   cases kq with
   | zero => exact absurd HA.out (by simp [footwayref03_Unwrap.j0])
   | succ kj3 =>
    have H := HA.out
    clear HA
    simp only [footwayref03_Unwrap.j0] at H
    by_cases c15 : x24_3 = true
    ·subst c15
     rw [if_pos rfl] at H
     simp only [Option.some.injEq, Prod.mk.injEq] at H
     obtain ⟨rfl, rfl, rfl, rfl, rfl, rfl⟩ := H
     have hnb16 := NB159_165.out
     have hnc16 := NB165_159.out
     obtain ⟨hcz17_0, hcz17_1, hcz17_2, hcz17_3, hcz17_4, hfz17_0, hfz17_1, hfz17_2, hfz17_3, hfz17_4⟩ := cs5 BK159.out
     go_wp2
     repeat (go_quiet (fail); try go_wp2)
     refine bodyPost_ret (results_ct rfl _ _ gb159 52 #[.int .i64 0, .int .i64 0, .int .i64 0, .int .i64 0, .int .i64 0] (0, 0) _ rfl (by exact bk BK159.out rfl) Tq.underlying52 rfl (by kernel_rfl)) rfl ?_
     exact ⟨by first | rfl | (simp [errW_none, errW_some] <;> rfl) | (simp [*, errW_none, errW_some] <;> rfl), by exact bw HB.out⟩
    ·replace c15 := Bool.eq_false_iff.mpr c15
     subst c15
     rw [if_neg (show ¬ (false = true) by decide)] at H
     replace H := Option.bind_eq_some_iff.mp H
     obtain ⟨⟨t166, t167, t168, t169, t170, t171⟩, A180, H⟩ := H
     try dsimp only at H
     have A18 := Aside0.mk A180
     clear A180
     by_cases c19 : t171 = 0
     ·rw [if_pos c19] at H
      have c19b0 : (t171 == 0) = true := beq_iff_eq.mpr c19
      have c19b1 : (t171 != 0) = false := bne_eq_false_iff_eq.mpr c19
      clear c19
      replace H := Option.bind_eq_some_iff.mp H
      obtain ⟨t173, A200, H⟩ := H
      try dsimp only at H
      have A20 := Aside0.mk A200
      clear A200
      by_cases c21 : t161 = t173
      case' neg =>
       rw [if_neg c21] at H
       have c21b0 : (t161 == t173) = false := beq_eq_false_iff_ne.mpr c21
       have c21b1 : (t161 != t173) = true := bne_iff_ne.mpr c21
       simp only [Option.some.injEq, Prod.mk.injEq] at H
       obtain ⟨rfl, rfl, rfl, rfl, rfl, rfl⟩ := H
      case' pos =>
       rw [if_pos c21] at H
       have c21b0 : (t161 == t173) = true := beq_iff_eq.mpr c21
       have c21b1 : (t161 != t173) = false := bne_eq_false_iff_eq.mpr c21
       clear c21
       simp only [Option.some.injEq, Prod.mk.injEq] at H
       obtain ⟨rfl, rfl, rfl, rfl, rfl, rfl⟩ := H
      all_goals
       have hnb22 := NB165_159.out
       have hnc22 := NB159_165.out
       obtain ⟨hcz23_0, hcz23_1, hcz23_2, hcz23_3, hfz23_0, hfz23_1, hfz23_2, hfz23_3⟩ := cs4 BK165.out
       go_wp2_with (first | (go_at_call 56; (with_reducible refine (footwayref03_Parse.calls kj3 t163 t166 t167 t168 t169 t170 t171 _ A18.out).mono ?_); rintro e w24 ⟨rfl, hb⟩; replace BK159 := Aside0.mk (blk_below (g := gb159) (o := .cells #[.int .i64 0, .int .i64 0, .int .i64 0, .int .i64 0, .int .i64 0] 52 (0, 0)) (by exact bk BK159.out rfl) hb); replace BK165 := Aside0.mk (blk_below (g := gb165) (o := .cells #[.int .i64 t160, .int .i64 t161, .int .i64 t162, .string t163] 23 (0, 0)) (by exact bk BK165.out rfl) hb); replace HB := Aside0.mk (below_step (by exact bw HB.out) hb); (try clear hb); (try clear hb2); (try clear hk); (try clear hi)) | ((with_reducible refine gate_dst (N := 6) rfl ?_); refine box_event ?hg (N := 6) ?hd (cs := #[.int .i64 0, .int .i64 0, .int .i64 0, .int .i64 0, .int .i64 0]) (t := 52) ?hr ?_; (case hd => rfl); (case hg => rfl); (case hr => first | (go_simp; done) | (go_simp; rfl)); intro gb172 hg w25 hbox hb; have BK172 := Aside0.mk (hbox); have GW172 := Aside0.mk ((by rw [hg]; exact (below_size (by exact bw HB.out)) : w.heap.size ≤ gb172)); have GE172 := Aside0.mk ((by rw [hg]; exact (below_size (by exact bw HB.out)) : w.heap.size ≤ gb172)); replace HB := Aside0.mk (below_step (by exact bw HB.out) hb); have NB159_172 := Aside0.mk ((by rw [hg]; exact Nat.ne_of_lt (bl BK159.out) : gb159 ≠ gb172)); have NB172_159 := Aside0.mk ((by rw [hg]; exact Nat.ne_of_gt (bl BK159.out) : gb172 ≠ gb159)); replace BK159 := Aside0.mk (blk_below (g := gb159) (o := .cells #[.int .i64 0, .int .i64 0, .int .i64 0, .int .i64 0, .int .i64 0] 52 (0, 0)) (by exact bk BK159.out rfl) hb); have NB165_172 := Aside0.mk ((by rw [hg]; exact Nat.ne_of_lt (bl BK165.out) : gb165 ≠ gb172)); have NB172_165 := Aside0.mk ((by rw [hg]; exact Nat.ne_of_gt (bl BK165.out) : gb172 ≠ gb165)); replace BK165 := Aside0.mk (blk_below (g := gb165) (o := .cells #[.int .i64 t160, .int .i64 t161, .int .i64 t162, .string t163] 23 (0, 0)) (by exact bk BK165.out rfl) hb); clear hb hbox hg; have hnb26 := NB172_159.out; have hnc26 := NB159_172.out; have hnb27 := NB172_165.out; have hnc27 := NB165_172.out; obtain ⟨hcz28_0, hcz28_1, hcz28_2, hcz28_3, hcz28_4, hfz28_0, hfz28_1, hfz28_2, hfz28_3, hfz28_4⟩ := cs5 BK172.out; obtain ⟨hcz29_0, hcz29_1, hcz29_2, hcz29_3, hfz29_0, hfz29_1, hfz29_2, hfz29_3⟩ := cs4 BK165.out) | (go_at_call 82; (with_reducible refine (footwayref03_Source.calls t168 t173 _ A20.out).mono ?_); rintro e w' ⟨rfl, ⟨nd, rfl⟩⟩; (try first | exact ⟨rfl, _, World.drewN_drewN _ _ _⟩ | exact ⟨rfl, _, Eq.trans (World.drewN_drewN _ _ _) (congrArg (World.drewN _) (Nat.add_assoc _ _ _))⟩); obtain ⟨hcz30_0, hcz30_1, hcz30_2, hcz30_3, hcz30_4, hfz30_0, hfz30_1, hfz30_2, hfz30_3, hfz30_4⟩ := cs5 BK159.out))
       repeat (go_quiet (first | (go_at_call 56; (with_reducible refine (footwayref03_Parse.calls kj3 t163 t166 t167 t168 t169 t170 t171 _ A18.out).mono ?_); rintro e w24 ⟨rfl, hb⟩; replace BK159 := Aside0.mk (blk_below (g := gb159) (o := .cells #[.int .i64 0, .int .i64 0, .int .i64 0, .int .i64 0, .int .i64 0] 52 (0, 0)) (by exact bk BK159.out rfl) hb); replace BK165 := Aside0.mk (blk_below (g := gb165) (o := .cells #[.int .i64 t160, .int .i64 t161, .int .i64 t162, .string t163] 23 (0, 0)) (by exact bk BK165.out rfl) hb); replace HB := Aside0.mk (below_step (by exact bw HB.out) hb); (try clear hb); (try clear hb2); (try clear hk); (try clear hi)) | ((with_reducible refine gate_dst (N := 6) rfl ?_); refine box_event ?hg (N := 6) ?hd (cs := #[.int .i64 0, .int .i64 0, .int .i64 0, .int .i64 0, .int .i64 0]) (t := 52) ?hr ?_; (case hd => rfl); (case hg => rfl); (case hr => first | (go_simp; done) | (go_simp; rfl)); intro gb172 hg w25 hbox hb; have BK172 := Aside0.mk (hbox); have GW172 := Aside0.mk ((by rw [hg]; exact (below_size (by exact bw HB.out)) : w.heap.size ≤ gb172)); have GE172 := Aside0.mk ((by rw [hg]; exact (below_size (by exact bw HB.out)) : w.heap.size ≤ gb172)); replace HB := Aside0.mk (below_step (by exact bw HB.out) hb); have NB159_172 := Aside0.mk ((by rw [hg]; exact Nat.ne_of_lt (bl BK159.out) : gb159 ≠ gb172)); have NB172_159 := Aside0.mk ((by rw [hg]; exact Nat.ne_of_gt (bl BK159.out) : gb172 ≠ gb159)); replace BK159 := Aside0.mk (blk_below (g := gb159) (o := .cells #[.int .i64 0, .int .i64 0, .int .i64 0, .int .i64 0, .int .i64 0] 52 (0, 0)) (by exact bk BK159.out rfl) hb); have NB165_172 := Aside0.mk ((by rw [hg]; exact Nat.ne_of_lt (bl BK165.out) : gb165 ≠ gb172)); have NB172_165 := Aside0.mk ((by rw [hg]; exact Nat.ne_of_gt (bl BK165.out) : gb172 ≠ gb165)); replace BK165 := Aside0.mk (blk_below (g := gb165) (o := .cells #[.int .i64 t160, .int .i64 t161, .int .i64 t162, .string t163] 23 (0, 0)) (by exact bk BK165.out rfl) hb); clear hb hbox hg; have hnb26 := NB172_159.out; have hnc26 := NB159_172.out; have hnb27 := NB172_165.out; have hnc27 := NB165_172.out; obtain ⟨hcz28_0, hcz28_1, hcz28_2, hcz28_3, hcz28_4, hfz28_0, hfz28_1, hfz28_2, hfz28_3, hfz28_4⟩ := cs5 BK172.out; obtain ⟨hcz29_0, hcz29_1, hcz29_2, hcz29_3, hfz29_0, hfz29_1, hfz29_2, hfz29_3⟩ := cs4 BK165.out) | (go_at_call 82; (with_reducible refine (footwayref03_Source.calls t168 t173 _ A20.out).mono ?_); rintro e w' ⟨rfl, ⟨nd, rfl⟩⟩; (try first | exact ⟨rfl, _, World.drewN_drewN _ _ _⟩ | exact ⟨rfl, _, Eq.trans (World.drewN_drewN _ _ _) (congrArg (World.drewN _) (Nat.add_assoc _ _ _))⟩); obtain ⟨hcz30_0, hcz30_1, hcz30_2, hcz30_3, hcz30_4, hfz30_0, hfz30_1, hfz30_2, hfz30_3, hfz30_4⟩ := cs5 BK159.out)); try go_wp2_with (first | (go_at_call 56; (with_reducible refine (footwayref03_Parse.calls kj3 t163 t166 t167 t168 t169 t170 t171 _ A18.out).mono ?_); rintro e w24 ⟨rfl, hb⟩; replace BK159 := Aside0.mk (blk_below (g := gb159) (o := .cells #[.int .i64 0, .int .i64 0, .int .i64 0, .int .i64 0, .int .i64 0] 52 (0, 0)) (by exact bk BK159.out rfl) hb); replace BK165 := Aside0.mk (blk_below (g := gb165) (o := .cells #[.int .i64 t160, .int .i64 t161, .int .i64 t162, .string t163] 23 (0, 0)) (by exact bk BK165.out rfl) hb); replace HB := Aside0.mk (below_step (by exact bw HB.out) hb); (try clear hb); (try clear hb2); (try clear hk); (try clear hi)) | ((with_reducible refine gate_dst (N := 6) rfl ?_); refine box_event ?hg (N := 6) ?hd (cs := #[.int .i64 0, .int .i64 0, .int .i64 0, .int .i64 0, .int .i64 0]) (t := 52) ?hr ?_; (case hd => rfl); (case hg => rfl); (case hr => first | (go_simp; done) | (go_simp; rfl)); intro gb172 hg w25 hbox hb; have BK172 := Aside0.mk (hbox); have GW172 := Aside0.mk ((by rw [hg]; exact (below_size (by exact bw HB.out)) : w.heap.size ≤ gb172)); have GE172 := Aside0.mk ((by rw [hg]; exact (below_size (by exact bw HB.out)) : w.heap.size ≤ gb172)); replace HB := Aside0.mk (below_step (by exact bw HB.out) hb); have NB159_172 := Aside0.mk ((by rw [hg]; exact Nat.ne_of_lt (bl BK159.out) : gb159 ≠ gb172)); have NB172_159 := Aside0.mk ((by rw [hg]; exact Nat.ne_of_gt (bl BK159.out) : gb172 ≠ gb159)); replace BK159 := Aside0.mk (blk_below (g := gb159) (o := .cells #[.int .i64 0, .int .i64 0, .int .i64 0, .int .i64 0, .int .i64 0] 52 (0, 0)) (by exact bk BK159.out rfl) hb); have NB165_172 := Aside0.mk ((by rw [hg]; exact Nat.ne_of_lt (bl BK165.out) : gb165 ≠ gb172)); have NB172_165 := Aside0.mk ((by rw [hg]; exact Nat.ne_of_gt (bl BK165.out) : gb172 ≠ gb165)); replace BK165 := Aside0.mk (blk_below (g := gb165) (o := .cells #[.int .i64 t160, .int .i64 t161, .int .i64 t162, .string t163] 23 (0, 0)) (by exact bk BK165.out rfl) hb); clear hb hbox hg; have hnb26 := NB172_159.out; have hnc26 := NB159_172.out; have hnb27 := NB172_165.out; have hnc27 := NB165_172.out; obtain ⟨hcz28_0, hcz28_1, hcz28_2, hcz28_3, hcz28_4, hfz28_0, hfz28_1, hfz28_2, hfz28_3, hfz28_4⟩ := cs5 BK172.out; obtain ⟨hcz29_0, hcz29_1, hcz29_2, hcz29_3, hfz29_0, hfz29_1, hfz29_2, hfz29_3⟩ := cs4 BK165.out) | (go_at_call 82; (with_reducible refine (footwayref03_Source.calls t168 t173 _ A20.out).mono ?_); rintro e w' ⟨rfl, ⟨nd, rfl⟩⟩; (try first | exact ⟨rfl, _, World.drewN_drewN _ _ _⟩ | exact ⟨rfl, _, Eq.trans (World.drewN_drewN _ _ _) (congrArg (World.drewN _) (Nat.add_assoc _ _ _))⟩); obtain ⟨hcz30_0, hcz30_1, hcz30_2, hcz30_3, hcz30_4, hfz30_0, hfz30_1, hfz30_2, hfz30_3, hfz30_4⟩ := cs5 BK159.out)))
      ·refine bodyPost_ret (results_ct rfl _ _ gb159 52 #[.int .i64 t166, .int .i64 t167, .int .i64 t168, .int .i64 t169, .int .i64 t170] (0, 0) _ rfl (by exact bk BK159.out rfl) Tq.underlying52 rfl (by kernel_rfl)) rfl ?_
       exact ⟨by first | rfl | (simp [errW_none, errW_some] <;> rfl) | (simp [*, errW_none, errW_some] <;> rfl), by exact bw HB.out⟩
      ·refine bodyPost_ret (results_ct rfl _ _ gb159 52 #[.int .i64 0, .int .i64 0, .int .i64 0, .int .i64 0, .int .i64 0] (0, 0) _ rfl (by exact bk BK159.out rfl) Tq.underlying52 rfl (by kernel_rfl)) rfl ?_
       exact ⟨by first | rfl | (simp [errW_none, errW_some] <;> rfl) | (simp [*, errW_none, errW_some] <;> rfl), by exact bw HB.out⟩
     ·rw [if_neg c19] at H
      have c19b0 : (t171 == 0) = false := beq_eq_false_iff_ne.mpr c19
      have c19b1 : (t171 != 0) = true := bne_iff_ne.mpr c19
      simp only [Option.some.injEq, Prod.mk.injEq] at H
      obtain ⟨rfl, rfl, rfl, rfl, rfl, rfl⟩ := H
      have hnb40 := NB165_159.out
      have hnc40 := NB159_165.out
      obtain ⟨hcz41_0, hcz41_1, hcz41_2, hcz41_3, hfz41_0, hfz41_1, hfz41_2, hfz41_3⟩ := cs4 BK165.out
      go_wp2_with (first | (go_at_call 56; (with_reducible refine (footwayref03_Parse.calls kj3 t163 t166 t167 t168 t169 t170 t171 _ A18.out).mono ?_); rintro e w42 ⟨rfl, hb⟩; replace BK159 := Aside0.mk (blk_below (g := gb159) (o := .cells #[.int .i64 0, .int .i64 0, .int .i64 0, .int .i64 0, .int .i64 0] 52 (0, 0)) (by exact bk BK159.out rfl) hb); replace BK165 := Aside0.mk (blk_below (g := gb165) (o := .cells #[.int .i64 t160, .int .i64 t161, .int .i64 t162, .string t163] 23 (0, 0)) (by exact bk BK165.out rfl) hb); replace HB := Aside0.mk (below_step (by exact bw HB.out) hb); (try clear hb); (try clear hb2); (try clear hk); (try clear hi)) | ((with_reducible refine gate_dst (N := 6) rfl ?_); refine box_event ?hg (N := 6) ?hd (cs := #[.int .i64 0, .int .i64 0, .int .i64 0, .int .i64 0, .int .i64 0]) (t := 52) ?hr ?_; (case hd => rfl); (case hg => rfl); (case hr => first | (go_simp; done) | (go_simp; rfl)); intro gb172 hg w43 hbox hb; have BK172 := Aside0.mk (hbox); have GW172 := Aside0.mk ((by rw [hg]; exact (below_size (by exact bw HB.out)) : w.heap.size ≤ gb172)); have GE172 := Aside0.mk ((by rw [hg]; exact (below_size (by exact bw HB.out)) : w.heap.size ≤ gb172)); replace HB := Aside0.mk (below_step (by exact bw HB.out) hb); have NB159_172 := Aside0.mk ((by rw [hg]; exact Nat.ne_of_lt (bl BK159.out) : gb159 ≠ gb172)); have NB172_159 := Aside0.mk ((by rw [hg]; exact Nat.ne_of_gt (bl BK159.out) : gb172 ≠ gb159)); replace BK159 := Aside0.mk (blk_below (g := gb159) (o := .cells #[.int .i64 0, .int .i64 0, .int .i64 0, .int .i64 0, .int .i64 0] 52 (0, 0)) (by exact bk BK159.out rfl) hb); have NB165_172 := Aside0.mk ((by rw [hg]; exact Nat.ne_of_lt (bl BK165.out) : gb165 ≠ gb172)); have NB172_165 := Aside0.mk ((by rw [hg]; exact Nat.ne_of_gt (bl BK165.out) : gb172 ≠ gb165)); replace BK165 := Aside0.mk (blk_below (g := gb165) (o := .cells #[.int .i64 t160, .int .i64 t161, .int .i64 t162, .string t163] 23 (0, 0)) (by exact bk BK165.out rfl) hb); clear hb hbox hg; have hnb44 := NB172_159.out; have hnc44 := NB159_172.out; have hnb45 := NB172_165.out; have hnc45 := NB165_172.out; obtain ⟨hcz46_0, hcz46_1, hcz46_2, hcz46_3, hcz46_4, hfz46_0, hfz46_1, hfz46_2, hfz46_3, hfz46_4⟩ := cs5 BK172.out; obtain ⟨hcz47_0, hcz47_1, hcz47_2, hcz47_3, hcz47_4, hfz47_0, hfz47_1, hfz47_2, hfz47_3, hfz47_4⟩ := cs5 BK159.out))
      repeat (go_quiet (first | (go_at_call 56; (with_reducible refine (footwayref03_Parse.calls kj3 t163 t166 t167 t168 t169 t170 t171 _ A18.out).mono ?_); rintro e w42 ⟨rfl, hb⟩; replace BK159 := Aside0.mk (blk_below (g := gb159) (o := .cells #[.int .i64 0, .int .i64 0, .int .i64 0, .int .i64 0, .int .i64 0] 52 (0, 0)) (by exact bk BK159.out rfl) hb); replace BK165 := Aside0.mk (blk_below (g := gb165) (o := .cells #[.int .i64 t160, .int .i64 t161, .int .i64 t162, .string t163] 23 (0, 0)) (by exact bk BK165.out rfl) hb); replace HB := Aside0.mk (below_step (by exact bw HB.out) hb); (try clear hb); (try clear hb2); (try clear hk); (try clear hi)) | ((with_reducible refine gate_dst (N := 6) rfl ?_); refine box_event ?hg (N := 6) ?hd (cs := #[.int .i64 0, .int .i64 0, .int .i64 0, .int .i64 0, .int .i64 0]) (t := 52) ?hr ?_; (case hd => rfl); (case hg => rfl); (case hr => first | (go_simp; done) | (go_simp; rfl)); intro gb172 hg w43 hbox hb; have BK172 := Aside0.mk (hbox); have GW172 := Aside0.mk ((by rw [hg]; exact (below_size (by exact bw HB.out)) : w.heap.size ≤ gb172)); have GE172 := Aside0.mk ((by rw [hg]; exact (below_size (by exact bw HB.out)) : w.heap.size ≤ gb172)); replace HB := Aside0.mk (below_step (by exact bw HB.out) hb); have NB159_172 := Aside0.mk ((by rw [hg]; exact Nat.ne_of_lt (bl BK159.out) : gb159 ≠ gb172)); have NB172_159 := Aside0.mk ((by rw [hg]; exact Nat.ne_of_gt (bl BK159.out) : gb172 ≠ gb159)); replace BK159 := Aside0.mk (blk_below (g := gb159) (o := .cells #[.int .i64 0, .int .i64 0, .int .i64 0, .int .i64 0, .int .i64 0] 52 (0, 0)) (by exact bk BK159.out rfl) hb); have NB165_172 := Aside0.mk ((by rw [hg]; exact Nat.ne_of_lt (bl BK165.out) : gb165 ≠ gb172)); have NB172_165 := Aside0.mk ((by rw [hg]; exact Nat.ne_of_gt (bl BK165.out) : gb172 ≠ gb165)); replace BK165 := Aside0.mk (blk_below (g := gb165) (o := .cells #[.int .i64 t160, .int .i64 t161, .int .i64 t162, .string t163] 23 (0, 0)) (by exact bk BK165.out rfl) hb); clear hb hbox hg; have hnb44 := NB172_159.out; have hnc44 := NB159_172.out; have hnb45 := NB172_165.out; have hnc45 := NB165_172.out; obtain ⟨hcz46_0, hcz46_1, hcz46_2, hcz46_3, hcz46_4, hfz46_0, hfz46_1, hfz46_2, hfz46_3, hfz46_4⟩ := cs5 BK172.out; obtain ⟨hcz47_0, hcz47_1, hcz47_2, hcz47_3, hcz47_4, hfz47_0, hfz47_1, hfz47_2, hfz47_3, hfz47_4⟩ := cs5 BK159.out)); try go_wp2_with (first | (go_at_call 56; (with_reducible refine (footwayref03_Parse.calls kj3 t163 t166 t167 t168 t169 t170 t171 _ A18.out).mono ?_); rintro e w42 ⟨rfl, hb⟩; replace BK159 := Aside0.mk (blk_below (g := gb159) (o := .cells #[.int .i64 0, .int .i64 0, .int .i64 0, .int .i64 0, .int .i64 0] 52 (0, 0)) (by exact bk BK159.out rfl) hb); replace BK165 := Aside0.mk (blk_below (g := gb165) (o := .cells #[.int .i64 t160, .int .i64 t161, .int .i64 t162, .string t163] 23 (0, 0)) (by exact bk BK165.out rfl) hb); replace HB := Aside0.mk (below_step (by exact bw HB.out) hb); (try clear hb); (try clear hb2); (try clear hk); (try clear hi)) | ((with_reducible refine gate_dst (N := 6) rfl ?_); refine box_event ?hg (N := 6) ?hd (cs := #[.int .i64 0, .int .i64 0, .int .i64 0, .int .i64 0, .int .i64 0]) (t := 52) ?hr ?_; (case hd => rfl); (case hg => rfl); (case hr => first | (go_simp; done) | (go_simp; rfl)); intro gb172 hg w43 hbox hb; have BK172 := Aside0.mk (hbox); have GW172 := Aside0.mk ((by rw [hg]; exact (below_size (by exact bw HB.out)) : w.heap.size ≤ gb172)); have GE172 := Aside0.mk ((by rw [hg]; exact (below_size (by exact bw HB.out)) : w.heap.size ≤ gb172)); replace HB := Aside0.mk (below_step (by exact bw HB.out) hb); have NB159_172 := Aside0.mk ((by rw [hg]; exact Nat.ne_of_lt (bl BK159.out) : gb159 ≠ gb172)); have NB172_159 := Aside0.mk ((by rw [hg]; exact Nat.ne_of_gt (bl BK159.out) : gb172 ≠ gb159)); replace BK159 := Aside0.mk (blk_below (g := gb159) (o := .cells #[.int .i64 0, .int .i64 0, .int .i64 0, .int .i64 0, .int .i64 0] 52 (0, 0)) (by exact bk BK159.out rfl) hb); have NB165_172 := Aside0.mk ((by rw [hg]; exact Nat.ne_of_lt (bl BK165.out) : gb165 ≠ gb172)); have NB172_165 := Aside0.mk ((by rw [hg]; exact Nat.ne_of_gt (bl BK165.out) : gb172 ≠ gb165)); replace BK165 := Aside0.mk (blk_below (g := gb165) (o := .cells #[.int .i64 t160, .int .i64 t161, .int .i64 t162, .string t163] 23 (0, 0)) (by exact bk BK165.out rfl) hb); clear hb hbox hg; have hnb44 := NB172_159.out; have hnc44 := NB159_172.out; have hnb45 := NB172_165.out; have hnc45 := NB165_172.out; obtain ⟨hcz46_0, hcz46_1, hcz46_2, hcz46_3, hcz46_4, hfz46_0, hfz46_1, hfz46_2, hfz46_3, hfz46_4⟩ := cs5 BK172.out; obtain ⟨hcz47_0, hcz47_1, hcz47_2, hcz47_3, hcz47_4, hfz47_0, hfz47_1, hfz47_2, hfz47_3, hfz47_4⟩ := cs5 BK159.out)))
      refine bodyPost_ret (results_ct rfl _ _ gb159 52 #[.int .i64 0, .int .i64 0, .int .i64 0, .int .i64 0, .int .i64 0] (0, 0) _ rfl (by exact bk BK159.out rfl) Tq.underlying52 rfl (by kernel_rfl)) rfl ?_
      exact ⟨by first | rfl | (simp [errW_none, errW_some] <;> rfl) | (simp [*, errW_none, errW_some] <;> rfl), by exact bw HB.out⟩
 ·rw [if_neg c3] at H
  have c3b0 : (t164 == 0) = false := beq_eq_false_iff_ne.mpr c3
  have c3b1 : (t164 != 0) = true := bne_iff_ne.mpr c3
  simp only [Option.some.injEq, Prod.mk.injEq] at H
  obtain ⟨rfl, rfl, rfl, rfl, rfl, rfl⟩ := H
  go_enter Tq.func57, Try.ntmps57
  go_wp2_with (first | ((with_reducible refine gate_dst (N := 2) rfl ?_); refine box_event ?hg (N := 2) ?hd (cs := #[.int .i64 0, .int .i64 0, .int .i64 0, .int .i64 0, .int .i64 0]) (t := 52) ?hr ?_; (case hd => rfl); (case hg => rfl); (case hr => first | (go_simp; done) | (go_simp; rfl)); intro gb159 hg w48 hbox hb; have BK159 := Aside0.mk (hbox); have GW159 := Aside0.mk ((by rw [hg]; exact (below_size (by exact bw HB.out)) : w.heap.size ≤ gb159)); have GE159 := Aside0.mk ((by rw [hg]; exact (below_size (by exact bw HB.out)) : w.heap.size ≤ gb159)); replace HB := Aside0.mk (below_step (by exact bw HB.out) hb); clear hb hbox hg) | (go_at_call 24; (with_reducible refine (footwayref02_Parse.calls k a0 t160 t161 t162 t163 t164 _ A2.out).mono ?_); rintro e w49 ⟨rfl, hb⟩; replace BK159 := Aside0.mk (blk_below (g := gb159) (o := .cells #[.int .i64 0, .int .i64 0, .int .i64 0, .int .i64 0, .int .i64 0] 52 (0, 0)) (by exact bk BK159.out rfl) hb); replace HB := Aside0.mk (below_step (by exact bw HB.out) hb); (try clear hb); (try clear hb2); (try clear hk); (try clear hi)) | ((with_reducible refine gate_dst (N := 4) rfl ?_); refine box_event ?hg (N := 4) ?hd (cs := #[.int .i64 0, .int .i64 0, .int .i64 0, .string (⟨#[]⟩ : ByteArray)]) (t := 23) ?hr ?_; (case hd => rfl); (case hg => rfl); (case hr => first | (go_simp; done) | (go_simp; rfl)); intro gb165 hg w50 hbox hb; have BK165 := Aside0.mk (hbox); have GW165 := Aside0.mk ((by rw [hg]; exact (below_size (by exact bw HB.out)) : w.heap.size ≤ gb165)); have GE165 := Aside0.mk ((by rw [hg]; exact (below_size (by exact bw HB.out)) : w.heap.size ≤ gb165)); replace HB := Aside0.mk (below_step (by exact bw HB.out) hb); have NB159_165 := Aside0.mk ((by rw [hg]; exact Nat.ne_of_lt (bl BK159.out) : gb159 ≠ gb165)); have NB165_159 := Aside0.mk ((by rw [hg]; exact Nat.ne_of_gt (bl BK159.out) : gb165 ≠ gb159)); replace BK159 := Aside0.mk (blk_below (g := gb159) (o := .cells #[.int .i64 0, .int .i64 0, .int .i64 0, .int .i64 0, .int .i64 0] 52 (0, 0)) (by exact bk BK159.out rfl) hb); clear hb hbox hg; have hnb51 := NB165_159.out; have hnc51 := NB159_165.out; obtain ⟨hcz52_0, hcz52_1, hcz52_2, hcz52_3, hfz52_0, hfz52_1, hfz52_2, hfz52_3⟩ := cs4 BK165.out; obtain ⟨hcz53_0, hcz53_1, hcz53_2, hcz53_3, hcz53_4, hfz53_0, hfz53_1, hfz53_2, hfz53_3, hfz53_4⟩ := cs5 BK159.out))
  repeat (go_quiet (first | ((with_reducible refine gate_dst (N := 2) rfl ?_); refine box_event ?hg (N := 2) ?hd (cs := #[.int .i64 0, .int .i64 0, .int .i64 0, .int .i64 0, .int .i64 0]) (t := 52) ?hr ?_; (case hd => rfl); (case hg => rfl); (case hr => first | (go_simp; done) | (go_simp; rfl)); intro gb159 hg w48 hbox hb; have BK159 := Aside0.mk (hbox); have GW159 := Aside0.mk ((by rw [hg]; exact (below_size (by exact bw HB.out)) : w.heap.size ≤ gb159)); have GE159 := Aside0.mk ((by rw [hg]; exact (below_size (by exact bw HB.out)) : w.heap.size ≤ gb159)); replace HB := Aside0.mk (below_step (by exact bw HB.out) hb); clear hb hbox hg) | (go_at_call 24; (with_reducible refine (footwayref02_Parse.calls k a0 t160 t161 t162 t163 t164 _ A2.out).mono ?_); rintro e w49 ⟨rfl, hb⟩; replace BK159 := Aside0.mk (blk_below (g := gb159) (o := .cells #[.int .i64 0, .int .i64 0, .int .i64 0, .int .i64 0, .int .i64 0] 52 (0, 0)) (by exact bk BK159.out rfl) hb); replace HB := Aside0.mk (below_step (by exact bw HB.out) hb); (try clear hb); (try clear hb2); (try clear hk); (try clear hi)) | ((with_reducible refine gate_dst (N := 4) rfl ?_); refine box_event ?hg (N := 4) ?hd (cs := #[.int .i64 0, .int .i64 0, .int .i64 0, .string (⟨#[]⟩ : ByteArray)]) (t := 23) ?hr ?_; (case hd => rfl); (case hg => rfl); (case hr => first | (go_simp; done) | (go_simp; rfl)); intro gb165 hg w50 hbox hb; have BK165 := Aside0.mk (hbox); have GW165 := Aside0.mk ((by rw [hg]; exact (below_size (by exact bw HB.out)) : w.heap.size ≤ gb165)); have GE165 := Aside0.mk ((by rw [hg]; exact (below_size (by exact bw HB.out)) : w.heap.size ≤ gb165)); replace HB := Aside0.mk (below_step (by exact bw HB.out) hb); have NB159_165 := Aside0.mk ((by rw [hg]; exact Nat.ne_of_lt (bl BK159.out) : gb159 ≠ gb165)); have NB165_159 := Aside0.mk ((by rw [hg]; exact Nat.ne_of_gt (bl BK159.out) : gb165 ≠ gb159)); replace BK159 := Aside0.mk (blk_below (g := gb159) (o := .cells #[.int .i64 0, .int .i64 0, .int .i64 0, .int .i64 0, .int .i64 0] 52 (0, 0)) (by exact bk BK159.out rfl) hb); clear hb hbox hg; have hnb51 := NB165_159.out; have hnc51 := NB159_165.out; obtain ⟨hcz52_0, hcz52_1, hcz52_2, hcz52_3, hfz52_0, hfz52_1, hfz52_2, hfz52_3⟩ := cs4 BK165.out; obtain ⟨hcz53_0, hcz53_1, hcz53_2, hcz53_3, hcz53_4, hfz53_0, hfz53_1, hfz53_2, hfz53_3, hfz53_4⟩ := cs5 BK159.out)); try go_wp2_with (first | ((with_reducible refine gate_dst (N := 2) rfl ?_); refine box_event ?hg (N := 2) ?hd (cs := #[.int .i64 0, .int .i64 0, .int .i64 0, .int .i64 0, .int .i64 0]) (t := 52) ?hr ?_; (case hd => rfl); (case hg => rfl); (case hr => first | (go_simp; done) | (go_simp; rfl)); intro gb159 hg w48 hbox hb; have BK159 := Aside0.mk (hbox); have GW159 := Aside0.mk ((by rw [hg]; exact (below_size (by exact bw HB.out)) : w.heap.size ≤ gb159)); have GE159 := Aside0.mk ((by rw [hg]; exact (below_size (by exact bw HB.out)) : w.heap.size ≤ gb159)); replace HB := Aside0.mk (below_step (by exact bw HB.out) hb); clear hb hbox hg) | (go_at_call 24; (with_reducible refine (footwayref02_Parse.calls k a0 t160 t161 t162 t163 t164 _ A2.out).mono ?_); rintro e w49 ⟨rfl, hb⟩; replace BK159 := Aside0.mk (blk_below (g := gb159) (o := .cells #[.int .i64 0, .int .i64 0, .int .i64 0, .int .i64 0, .int .i64 0] 52 (0, 0)) (by exact bk BK159.out rfl) hb); replace HB := Aside0.mk (below_step (by exact bw HB.out) hb); (try clear hb); (try clear hb2); (try clear hk); (try clear hi)) | ((with_reducible refine gate_dst (N := 4) rfl ?_); refine box_event ?hg (N := 4) ?hd (cs := #[.int .i64 0, .int .i64 0, .int .i64 0, .string (⟨#[]⟩ : ByteArray)]) (t := 23) ?hr ?_; (case hd => rfl); (case hg => rfl); (case hr => first | (go_simp; done) | (go_simp; rfl)); intro gb165 hg w50 hbox hb; have BK165 := Aside0.mk (hbox); have GW165 := Aside0.mk ((by rw [hg]; exact (below_size (by exact bw HB.out)) : w.heap.size ≤ gb165)); have GE165 := Aside0.mk ((by rw [hg]; exact (below_size (by exact bw HB.out)) : w.heap.size ≤ gb165)); replace HB := Aside0.mk (below_step (by exact bw HB.out) hb); have NB159_165 := Aside0.mk ((by rw [hg]; exact Nat.ne_of_lt (bl BK159.out) : gb159 ≠ gb165)); have NB165_159 := Aside0.mk ((by rw [hg]; exact Nat.ne_of_gt (bl BK159.out) : gb165 ≠ gb159)); replace BK159 := Aside0.mk (blk_below (g := gb159) (o := .cells #[.int .i64 0, .int .i64 0, .int .i64 0, .int .i64 0, .int .i64 0] 52 (0, 0)) (by exact bk BK159.out rfl) hb); clear hb hbox hg; have hnb51 := NB165_159.out; have hnc51 := NB159_165.out; obtain ⟨hcz52_0, hcz52_1, hcz52_2, hcz52_3, hfz52_0, hfz52_1, hfz52_2, hfz52_3⟩ := cs4 BK165.out; obtain ⟨hcz53_0, hcz53_1, hcz53_2, hcz53_3, hcz53_4, hfz53_0, hfz53_1, hfz53_2, hfz53_3, hfz53_4⟩ := cs5 BK159.out)))
  refine bodyPost_ret (results_ct rfl _ _ gb159 52 #[.int .i64 0, .int .i64 0, .int .i64 0, .int .i64 0, .int .i64 0] (0, 0) _ rfl (by exact bk BK159.out rfl) Tq.underlying52 rfl (by kernel_rfl)) rfl ?_
  exact ⟨by first | rfl | (simp [errW_none, errW_some] <;> rfl) | (simp [*, errW_none, errW_some] <;> rfl), by exact bw HB.out⟩
def footwayref03_number.f : Nat → Int → Int → Option (ByteArray)
 | 0, _, _ => none
 | k + 1, a0, a1 => if a1 = 0 then (some (⟨#[]⟩ : ByteArray)) else ((footwayref03_number.f k (wrap64 (Int.tdiv a0 256)) (wrap64 (a1 - 1))).bind fun t174 => ((some (([(Int.tmod a0 256) % 256] : List Int) : List Int)).bind fun y175 => (if t174.size + (strOfNums y175).size ≤ 9223372036854775807 then (some (t174 ++ (strOfNums y175))) else (none))))
theorem footwayref03_number.mono_l : ∀ k, (∀ y0 y1, LeO (footwayref03_number.f k y0 y1) (footwayref03_number.f (k + 1) y0 y1))
 | 0 => fun _ _ r h => by simp [footwayref03_number.f] at h
 | k + 1 => by
  have ih0 := footwayref03_number.mono_l k
  ·intro y0 y1
   unfold footwayref03_number.f
   repeat' first
   | (with_reducible exact ih0 _ _)
   | (with_reducible exact LeO.refl _)
   | (with_reducible exact LeO.none _)
   | (with_reducible refine LeO.ite ?_ ?_)
   | (with_reducible refine LeO.bind ?_ (fun _ => ?_))
   | exact ih0 _ _
   | exact LeO.none _
   | refine LeO.ite ?_ ?_
   | refine LeO.bind ?_ (fun _ => ?_)
theorem footwayref03_number.mono : ∀ a0 a1 k, LeO (footwayref03_number.f k a0 a1) (footwayref03_number.f (k + 1) a0 a1) := by
 intro a0 a1 k
 have ih0 := footwayref03_number.mono_l k
 exact ih0 a0 a1
def footwayref03_number.T3 : Bool × List (List Nat × List Nat) := (true, [([], []), ([0], [0]), ([], []), ([2], [2]), ([1, 3], [1, 3]), ([], []), ([5], [5]), ([6], [6]), ([7], [7]), ([8], [8]), ([4, 9], [4, 9]), ([10, 4, 0, 1, 2, 3, 4, 5, 6, 7, 8, 9, 10], [10])])
def footwayref03_number.B3 : List Nat := [0, 1, 0, 4, 15, 0, 32, 96, 224, 480, 1023, 2047]
theorem footwayref03_number.tab3 : rtab .any (opsOf Try.f84 3) = footwayref03_number.T3 := by kernel_rfl
theorem footwayref03_number.bits3 : waitsOk footwayref03_number.T3.2 footwayref03_number.B3 = true := by kernel_rfl
set_option maxHeartbeats 8000000 in
set_option maxRecDepth 100000 in
theorem footwayref03_number.calls (k : Nat) : ∀ (a0 : Int) (a1 : Int) (r : ByteArray) (w : World) (h : footwayref03_number.f k a0 a1 = some r),
  Calls Tq.prog 84 #[.int .i64 a0, .int .i64 a1] w fun e w' => e = .returned (.string r) ∧ Below w.heap.size w w' := by
 induction k using Nat.strongRecOn with
 | _ k ih =>
 intro a0 a1 r w h
 cases k with
 | zero => exact absurd h (by simp [footwayref03_number.f])
 | succ k =>
 simp only [footwayref03_number.f] at h
 have HB := Aside0.mk (Below.refl w.heap.size w)
 have H : (if a1 = 0 then (some (⟨#[]⟩ : ByteArray)) else ((footwayref03_number.f k (wrap64 (Int.tdiv a0 256)) (wrap64 (a1 - 1))).bind fun t174 => ((some (([(Int.tmod a0 256) % 256] : List Int) : List Int)).bind fun y175 => (if t174.size + (strOfNums y175).size ≤ 9223372036854775807 then (some (t174 ++ (strOfNums y175))) else (none))))) = some r := h
 clear h
 by_cases c3 : a1 = 0
 ·rw [if_pos c3] at H
  have c3b0 : (a1 == 0) = true := beq_iff_eq.mpr c3
  have c3b1 : (a1 != 0) = false := bne_eq_false_iff_eq.mpr c3
  clear c3
  obtain rfl := Option.some.inj H
  go_enter Tq.func84, Try.ntmps84
  go_wp2
  go_ret
  exact ⟨by first | rfl | (simp [errW_none, errW_some] <;> rfl) | (simp [*, errW_none, errW_some] <;> rfl), by exact bw HB.out⟩
 ·rw [if_neg c3] at H
  have c3b0 : (a1 == 0) = false := beq_eq_false_iff_ne.mpr c3
  have c3b1 : (a1 != 0) = true := bne_iff_ne.mpr c3
  replace H := Option.bind_eq_some_iff.mp H
  obtain ⟨t174, A40, H⟩ := H
  try dsimp only at H
  have A4 := Aside0.mk A40
  clear A40
  obtain ⟨y175, hy175⟩ : ∃ y_ : List Int, y_ = (([(Int.tmod a0 256) % 256] : List Int)) := ⟨_, rfl⟩
  replace H : (if t174.size + (strOfNums y175).size ≤ 9223372036854775807 then (some (t174 ++ (strOfNums y175))) else (none)) = some r := by first | (rw [hy175]; with_reducible exact H) | (have H2_ := (Option.bind_some _ _).symm.trans H; rw [hy175]; with_reducible exact H2_) | (have H2_ := (Option.bind_some _ _).symm.trans H; with_reducible exact H2_) | with_reducible exact H | (rw [hy175]; exact H) | exact H
  have Ny175 := Aside0.mk hy175
  clear hy175
  by_cases c5 : t174.size + (strOfNums y175).size ≤ 9223372036854775807
  ·rw [if_pos c5] at H
   have c5b0 := eq_true c5
   have c5b1 : decide (t174.size + (strOfNums y175).size ≤ 9223372036854775807) = true := decide_eq_true c5
   try have c5b2 : (9223372036854775807 < t174.size + (strOfNums y175).size) = False := eq_false (Nat.not_lt.2 c5)
   obtain rfl := Option.some.inj H
   go_enter Tq.func84, Try.ntmps84
   try go_wp2
   replace HB := Aside0.mk (below_drew1 HB.out)
   refine start_ (n := 12) (S := fun w' => True) (ds := []) #[ff, ff, ff, ff, ff, ff, ff, ff, ff, ff, ff, ff] (by kernel_rfl) rfl rfl trivial (fun hHeld => ?_); refine with_tabW footwayref03_number.tab3 footwayref03_number.bits3 (fun HT_ HW_ => ?_)
   generalize w.drew = w6 at HB hHeld ⊢
   refine pure_ (i := 0) (N := some 7) (v := ?_) (a' := ?_) #[tt, ff, ff, ff, ff, ff, ff, ff, ff, ff, ff, ff] rfl rfl (any_of HT_.out (by kernel_rfl)) (fun _ _ _ h => h) (Or.inl ⟨by rfl, ?_⟩) ?_ ?_
   rotate_left
   ·intro w'
    go_simp
    with_reducible rfl
   rotate_left
   ·simp only [Act.put, sA, sZ, sS, i64_w, i32_w]
    rfl
   refine pure_ (i := 1) (N := some 8) (v := ?_) (a' := ?_) #[tt, tt, ff, ff, ff, ff, ff, ff, ff, ff, ff, ff] rfl rfl (any_of HT_.out (by kernel_rfl)) (fun _ _ _ h => h) (Or.inl ⟨by rfl, ?_⟩) ?_ ?_
   rotate_left
   ·intro w'
    go_simp
    with_reducible rfl
   rotate_left
   ·simp only [Act.put, sA, sZ, sS, i64_w, i32_w]
    rfl
   refine pure_ (i := 2) (N := some 9) (v := ?_) (a' := ?_) #[tt, tt, tt, ff, ff, ff, ff, ff, ff, ff, ff, ff] rfl rfl (any_of HT_.out (by kernel_rfl)) (fun _ _ _ h => h) (Or.inl ⟨by rfl, ?_⟩) ?_ ?_
   rotate_left
   ·intro w'
    go_simp
    with_reducible rfl
   rotate_left
   ·simp only [Act.put, sA, sZ, sS, i64_w, i32_w]
    rfl
   refine pure_ (i := 3) (N := some 10) (v := ?_) (a' := ?_) #[tt, tt, tt, tt, ff, ff, ff, ff, ff, ff, ff, ff] rfl rfl (any_of HT_.out (by kernel_rfl)) (fun _ _ _ h => h) (Or.inl ⟨by rfl, ?_⟩) ?_ ?_
   rotate_left
   ·intro w'
    go_simp
    with_reducible rfl
   rotate_left
   ·simp only [Act.put, sA, sZ, sS, i64_w, i32_w]
    rfl
   refine pure_ (i := 5) (N := some 12) (v := ?_) (a' := ?_) #[tt, tt, tt, tt, ff, tt, ff, ff, ff, ff, ff, ff] rfl rfl (any_of HT_.out (by kernel_rfl)) (fun _ _ _ h => h) (Or.inl ⟨by rfl, ?_⟩) ?_ ?_
   rotate_left
   ·intro w'
    go_simp
    with_reducible rfl
   rotate_left
   ·simp only [Act.put, sA, sZ, sS, i64_w, i32_w]
    rfl
   refine pure_ (i := 6) (N := some 13) (v := ?_) (a' := ?_) #[tt, tt, tt, tt, ff, tt, tt, ff, ff, ff, ff, ff] rfl rfl (any_of HT_.out (by kernel_rfl)) (fun _ _ _ h => h) (Or.inl ⟨by rfl, ?_⟩) ?_ ?_
   rotate_left
   ·intro w'
    go_simp
    with_reducible rfl
   rotate_left
   ·simp only [Act.put, sA, sZ, sS, i64_w, i32_w]
    rfl
   refine pure_ (i := 7) (N := some 14) (v := ?_) (a' := ?_) #[tt, tt, tt, tt, ff, tt, tt, tt, ff, ff, ff, ff] rfl rfl (any_of HT_.out (by kernel_rfl)) (fun _ _ _ h => h) (Or.inl ⟨by rfl, ?_⟩) ?_ ?_
   rotate_left
   ·intro w'
    go_simp
    with_reducible rfl
   rotate_left
   ·simp only [Act.put, sA, sZ, sS, i64_w, i32_w]
    rfl
   refine join_ (σ := Value) 2 #[tt, tt, tt, tt, tt, tt, tt, tt, tt, tt, ff, ff] (fun s_ => [(11, .string t174), (15, s_), (16, .string (strOfNums y175))]) (fun s_ w' => (Kd.R (Kd.int .u8) 5 w' w.heap.size (fun _ => True) s_ y175) ∧ (Below w.heap.size w w')) ?_ ?_
   rotate_left
   ·intro hCont
    refine two_ (i := 4) (j := 8) (Ni := some 11) (Nj := some 15) #[tt, tt, tt, tt, tt, tt, tt, tt, ff, ff, ff, ff] #[tt, tt, tt, tt, ff, tt, tt, tt, tt, ff, ff, ff] rfl rfl rfl rfl (two_of HT_.out (by kernel_rfl)) (by decide) (by decide) (fun K hK => ?_) (fun K hK => ?_)
    ·skip
     refine goes_ Tq.func84 (by kernel_rfl) rfl #[.int .i64 (wrap64 (Int.tdiv a0 256)), .int .i64 (wrap64 (a1 - 1))] (by rfl) rfl rfl (by (try simp only [List.map_toArray, List.map_cons, List.map_nil]); first | done | rfl | (simp only [List.length_drop, List.length_take]; rfl)) ?_
     with_reducible refine (ih k (by omega) (wrap64 (Int.tdiv a0 256)) (wrap64 (a1 - 1)) t174 _ A4.out).mono ?_
     rintro e w7 ⟨rfl, hb⟩
     refine ⟨_, rfl, ?_⟩
     replace HB := Aside0.mk (below_step (by exact bw HB.out) hb)
     (try clear hb)
     (try clear hb2)
     (try clear hk)
     (try clear hi)
     refine hK.out _ _ trivial (fun hHeld => ?_)
     clear hK K
     refine norm_ (a' := ?_) ?_ ?_
     rotate_left
     ·show Act.put _ (some 11) _ = _
      simp only [Act.put, sA, sZ, sS, i64_w, i32_w]
      rfl
     refine one_ (i := 8) (N := some 15) #[tt, tt, tt, tt, tt, tt, tt, tt, tt, ff, ff, ff] rfl rfl (one_of HT_.out (by kernel_rfl)) (by decide) (fun K hK => ?_)
     refine Kd.R_lit_step (Kd.int .u8) _ 5 ?hg (N := 15) ?hd (xs := ([(Int.tmod a0 256) % 256] : List Int)) (inner := [.int .u8 ((Int.tmod a0 256) % 256)]) (ok := fun _ => True) (okp := fun _ => True) ?hr ?hp (fun _ hk => hk) trivial (Below.refl _ _) (Nat.le_refl _) (by simp) ?_; (case hd => rfl); (case hg => rfl); (case hr => first | (go_simp; done) | (go_simp; rfl)); (case hp => exact (Reps.one (show Kd.M (Kd.int .u8) _ _ _ ((Int.tmod a0 256) % 256) [.int .u8 ((Int.tmod a0 256) % 256)] from rfl) (Reps.none _ _)))
     intro v176 w8 ho9 hb hg_ hnew_
     clear hg_ hnew_
     (first | rw [← Ny175.out] at ho9 | (simp only [Int.reduceToNat] at ho9; rw [← Ny175.out] at ho9))
     have HO177 := Aside0.mk (Kd.R_lower ho9 (below_size (by exact bw HB.out)))
     replace HB := Aside0.mk (below_step (by exact bw HB.out) hb)
     clear hb ho9
     refine hK.out _ _ trivial (fun hHeld => ?_)
     clear hK K
     refine norm_ (a' := ?_) ?_ ?_
     rotate_left
     ·show Act.put _ (some 15) _ = _
      simp only [Act.put, sA, sZ, sS, i64_w, i32_w]
      rfl
     refine one_ (i := 9) (N := some 16) #[tt, tt, tt, tt, tt, tt, tt, tt, tt, tt, ff, ff] rfl rfl (one_of HT_.out (by kernel_rfl)) (by decide) (fun K hK => ?_)
     have hcv10 := own_string (P := Tq.prog) Tq.underlying35 Tq.underlying5 Tq.underlying9 (Kd.own_of_R HO177.out)
     refine value_ (w1 := ?_) (v := ?_) (by rfl) rfl ?_ ?_
     rotate_left 2
     ·go_simp
      constructor
      ·rfl
      ·rfl
     clear hcv10
     refine hK.out _ _ trivial (fun hHeld => ?_)
     clear hK K
     refine norm_ (a' := ?_) ?_ ?_
     rotate_left
     ·show Act.put _ (some 16) _ = _
      simp only [Act.put, sA, sZ, sS, i64_w, i32_w]
      rfl
     exact norm_ (by simp only [putAll, Act.put, sA, sZ, sS]) (hCont (v176) _ ⟨(by (with_reducible repeat (first | apply Kd.R_alloc | apply Kd.R_drewN | apply Kd.R_drew)); exact HO177.out), (by exact bw HB.out)⟩)
    ·skip
     refine Kd.R_lit_step (Kd.int .u8) _ 5 ?hg (N := 15) ?hd (xs := ([(Int.tmod a0 256) % 256] : List Int)) (inner := [.int .u8 ((Int.tmod a0 256) % 256)]) (ok := fun _ => True) (okp := fun _ => True) ?hr ?hp (fun _ hk => hk) trivial (Below.refl _ _) (Nat.le_refl _) (by simp) ?_; (case hd => rfl); (case hg => rfl); (case hr => first | (go_simp; done) | (go_simp; rfl)); (case hp => exact (Reps.one (show Kd.M (Kd.int .u8) _ _ _ ((Int.tmod a0 256) % 256) [.int .u8 ((Int.tmod a0 256) % 256)] from rfl) (Reps.none _ _)))
     intro v176 w7 ho8 hb hg_ hnew_
     clear hg_ hnew_
     (first | rw [← Ny175.out] at ho8 | (simp only [Int.reduceToNat] at ho8; rw [← Ny175.out] at ho8))
     have HO177 := Aside0.mk (Kd.R_lower ho8 (below_size (by exact bw HB.out)))
     replace HB := Aside0.mk (below_step (by exact bw HB.out) hb)
     clear hb ho8
     refine hK.out _ _ trivial (fun hHeld => ?_)
     clear hK K
     refine norm_ (a' := ?_) ?_ ?_
     rotate_left
     ·show Act.put _ (some 15) _ = _
      simp only [Act.put, sA, sZ, sS, i64_w, i32_w]
      rfl
     refine two_ (i := 4) (j := 9) (Ni := some 11) (Nj := some 16) #[tt, tt, tt, tt, tt, tt, tt, tt, tt, ff, ff, ff] #[tt, tt, tt, tt, ff, tt, tt, tt, tt, tt, ff, ff] rfl rfl rfl rfl (two_of HT_.out (by kernel_rfl)) (by decide) (by decide) (fun K hK => ?_) (fun K hK => ?_)
     ·skip
      refine goes_ Tq.func84 (by kernel_rfl) rfl #[.int .i64 (wrap64 (Int.tdiv a0 256)), .int .i64 (wrap64 (a1 - 1))] (by rfl) rfl rfl (by (try simp only [List.map_toArray, List.map_cons, List.map_nil]); first | done | rfl | (simp only [List.length_drop, List.length_take]; rfl)) ?_
      with_reducible refine (ih k (by omega) (wrap64 (Int.tdiv a0 256)) (wrap64 (a1 - 1)) t174 _ A4.out).mono ?_
      rintro e w9 ⟨rfl, hb⟩
      refine ⟨_, rfl, ?_⟩
      replace HO177 := Aside0.mk (Kd.R_below (by (with_reducible repeat (first | apply Kd.R_alloc | apply Kd.R_drewN | apply Kd.R_drew)); exact HO177.out) hb)
      replace HB := Aside0.mk (below_step (by exact bw HB.out) hb)
      (try clear hb)
      (try clear hb2)
      (try clear hk)
      (try clear hi)
      refine hK.out _ _ trivial (fun hHeld => ?_)
      clear hK K
      refine norm_ (a' := ?_) ?_ ?_
      rotate_left
      ·show Act.put _ (some 11) _ = _
       simp only [Act.put, sA, sZ, sS, i64_w, i32_w]
       rfl
      refine one_ (i := 9) (N := some 16) #[tt, tt, tt, tt, tt, tt, tt, tt, tt, tt, ff, ff] rfl rfl (one_of HT_.out (by kernel_rfl)) (by decide) (fun K hK => ?_)
      have hcv10 := own_string (P := Tq.prog) Tq.underlying35 Tq.underlying5 Tq.underlying9 (Kd.own_of_R HO177.out)
      refine value_ (w1 := ?_) (v := ?_) (by rfl) rfl ?_ ?_
      rotate_left 2
      ·go_simp
       constructor
       ·rfl
       ·rfl
      clear hcv10
      refine hK.out _ _ trivial (fun hHeld => ?_)
      clear hK K
      refine norm_ (a' := ?_) ?_ ?_
      rotate_left
      ·show Act.put _ (some 16) _ = _
       simp only [Act.put, sA, sZ, sS, i64_w, i32_w]
       rfl
      exact norm_ (by simp only [putAll, Act.put, sA, sZ, sS]) (hCont (v176) _ ⟨(by (with_reducible repeat (first | apply Kd.R_alloc | apply Kd.R_drewN | apply Kd.R_drew)); exact HO177.out), (by exact bw HB.out)⟩)
     ·skip
      have hcv9 := own_string (P := Tq.prog) Tq.underlying35 Tq.underlying5 Tq.underlying9 (Kd.own_of_R HO177.out)
      refine value_ (w1 := ?_) (v := ?_) (by rfl) rfl ?_ ?_
      rotate_left 2
      ·go_simp
       constructor
       ·rfl
       ·rfl
      clear hcv9
      refine hK.out _ _ trivial (fun hHeld => ?_)
      clear hK K
      refine norm_ (a' := ?_) ?_ ?_
      rotate_left
      ·show Act.put _ (some 16) _ = _
       simp only [Act.put, sA, sZ, sS, i64_w, i32_w]
       rfl
      refine one_ (i := 4) (N := some 11) #[tt, tt, tt, tt, tt, tt, tt, tt, tt, tt, ff, ff] rfl rfl (one_of HT_.out (by kernel_rfl)) (by decide) (fun K hK => ?_)
      refine goes_ Tq.func84 (by kernel_rfl) rfl #[.int .i64 (wrap64 (Int.tdiv a0 256)), .int .i64 (wrap64 (a1 - 1))] (by rfl) rfl rfl (by (try simp only [List.map_toArray, List.map_cons, List.map_nil]); first | done | rfl | (simp only [List.length_drop, List.length_take]; rfl)) ?_
      with_reducible refine (ih k (by omega) (wrap64 (Int.tdiv a0 256)) (wrap64 (a1 - 1)) t174 _ A4.out).mono ?_
      rintro e w10 ⟨rfl, hb⟩
      refine ⟨_, rfl, ?_⟩
      replace HO177 := Aside0.mk (Kd.R_below (by (with_reducible repeat (first | apply Kd.R_alloc | apply Kd.R_drewN | apply Kd.R_drew)); exact HO177.out) hb)
      replace HB := Aside0.mk (below_step (by exact bw HB.out) hb)
      (try clear hb)
      (try clear hb2)
      (try clear hk)
      (try clear hi)
      refine hK.out _ _ trivial (fun hHeld => ?_)
      clear hK K
      refine norm_ (a' := ?_) ?_ ?_
      rotate_left
      ·show Act.put _ (some 11) _ = _
       simp only [Act.put, sA, sZ, sS, i64_w, i32_w]
       rfl
      exact norm_ (by simp only [putAll, Act.put, sA, sZ, sS]) (hCont (v176) _ ⟨(by (with_reducible repeat (first | apply Kd.R_alloc | apply Kd.R_drewN | apply Kd.R_drew)); exact HO177.out), (by exact bw HB.out)⟩)
   rintro v176 w11 ⟨h0_, h1_⟩
   have n0_ : Aside0 (Kd.R (Kd.int .u8) 5 w11 w.heap.size (fun _ => True) v176 y175) := ⟨h0_⟩
   have n1_ : Aside0 (Below w.heap.size w w11) := ⟨h1_⟩
   clear HB
   clear h0_ h1_
   have HO177 := n0_
   have HB := n1_
   clear n0_ n1_
   have hHeld := trivial
   refine norm_ (a' := ?_) ?_ ?_
   rotate_left
   ·simp only [putAll, Act.put, sA, sZ, sS]
    rfl
   refine pure_ (i := 10) (N := some 17) (v := ?_) (a' := ?_) #[tt, tt, tt, tt, tt, tt, tt, tt, tt, tt, tt, ff] rfl rfl (any_of HT_.out (by kernel_rfl)) (fun _ _ _ h => h) (Or.inl ⟨by rfl, ?_⟩) ?_ ?_
   rotate_left
   ·intro w'
    go_simp
    with_reducible rfl
   rotate_left
   ·simp only [Act.put, sA, sZ, sS, i64_w, i32_w]
    rfl
   refine pure_ (i := 11) (N := some 4) (v := ?_) (a' := ?_) #[tt, tt, tt, tt, tt, tt, tt, tt, tt, tt, tt, tt] rfl rfl (any_of HT_.out (by kernel_rfl)) (fun _ _ _ h => h) (Or.inl ⟨by rfl, ?_⟩) ?_ ?_
   rotate_left
   ·intro w'
    go_simp
    with_reducible rfl
   rotate_left
   ·simp only [Act.put, sA, sZ, sS, i64_w, i32_w]
    rfl
   refine done_ (done_of HT_.out (by kernel_rfl)) ?_
   try go_wp2
   go_ret
   exact ⟨by first | rfl | (simp [errW_none, errW_some] <;> rfl) | (simp [*, errW_none, errW_some] <;> rfl), by exact bw HB.out⟩
  ·rw [if_neg c5] at H
   exact absurd H (by simp)
end Go.Proofs.Ytnikfjfcbpeieaa.PBp
end
