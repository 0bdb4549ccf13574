/- Parts, joined for the claim. -/
import Derived.Test.YtnikfjfcbpeieaaMTW
import Derived.Test.YtnikfjfcbpeieaaMTQq
import Derived.Test.YtnikfjfcbpeieaaMTTe
import Derived.Test.YtnikfjfcbpeieaaMTTc
import Derived.Test.YtnikfjfcbpeieaaMTTBp
import Derived.Test.YtnikfjfcbpeieaaMTTa
import Derived.Test.YtnikfjfcbpeieaaMTTf
section
namespace Go.Proofs.Ytnikfjfcbpeieaa.PBp
open Go.RowKit Go.Proofs.Ytnikfjfcbpeieaa.PBq Go.Proofs.Ytnikfjfcbpeieaa.EFrame Go.Proofs.Ytnikfjfcbpeieaa.PBa Go.Proofs.Ytnikfjfcbpeieaa.PBb Go.Proofs.Ytnikfjfcbpeieaa.PFr Go.Proofs.Ytnikfjfcbpeieaa.EBp Go.Proofs.YtnikfjfcbpeieaaW.PrintWords Go.Proofs.YtnikfjfcbpeieaaW.PrintLast Go.Proofs.YtnikfjfcbpeieaaW.PrintMore
attribute [local go_sem] max2_int min2_int max_two min_two max_three min_three max_four min_four   -- for this text's walks alone
set_option linter.unusedVariables false
set_option linter.unusedSimpArgs false
def bpdu_Wrap.f (k : Nat) (a0_0 : Int) (a0_1 : Int) (a0_2 : Int) (a0_3 : Int) (a0_4 : Int) : Option (ByteArray × Int) := (bpdu_Print.f a0_0 a0_1 a0_2 a0_3 a0_4).bind fun bt130 => (if bt130.2 = 0 then ((frame_Print.f k 1652522221568 (wrap64 (2199023321088 + a0_2)) 32834 bt130.1).bind fun bt132 => (some (bt132.1, bt132.2))) else (some ((⟨#[]⟩ : ByteArray), bt130.2)))
theorem bpdu_Wrap.mono : ∀ a0 a1 a2 a3 a4 k, LeO (bpdu_Wrap.f k a0 a1 a2 a3 a4) (bpdu_Wrap.f (k + 1) a0 a1 a2 a3 a4) := by
 intro a0 a1 a2 a3 a4 k
 unfold bpdu_Wrap.f
 repeat' first
   | (with_reducible exact frame_Print.mono _ _ _ _ _)
   | (with_reducible exact LeO.refl _)
   | (with_reducible exact LeO.none _)
   | (with_reducible refine LeO.ite ?_ ?_)
   | (with_reducible refine LeO.bind ?_ (fun _ => ?_))
   | exact frame_Print.mono _ _ _ _ _
   | exact LeO.none _
   | refine LeO.ite ?_ ?_
   | refine LeO.bind ?_ (fun _ => ?_)
set_option maxHeartbeats 8000000 in
set_option maxRecDepth 100000 in
theorem bpdu_Wrap.calls (k : Nat) (a0_0 : Int) (a0_1 : Int) (a0_2 : Int) (a0_3 : Int) (a0_4 : Int) (r1 : ByteArray) (r2 : Int) (w : World) (h : bpdu_Wrap.f k a0_0 a0_1 a0_2 a0_3 a0_4 = some (r1, r2)) :
  Calls Tq.prog 54 #[.agg #[.int .i64 a0_0, .int .i64 a0_1, .int .i64 a0_2, .int .i64 a0_3, .int .i64 a0_4]] w fun e w' => e = .returned (.tuple #[.string r1, .int .i64 r2]) ∧ Below w.heap.size w w' := by
 have hu52 := Tq.underlying52
 have hu23 := Tq.underlying23
 have HB := Aside0.mk (Below.refl w.heap.size w)
 have H := h
 unfold bpdu_Wrap.f at H
 clear h
 replace H := Option.bind_eq_some_iff.mp H
 obtain ⟨⟨t130, t131⟩, A20, H⟩ := H
 try dsimp only at H
 have A2 := Aside0.mk A20
 clear A20
 by_cases c3 : t131 = 0
 case' neg =>
  rw [if_neg c3] at H
  have c3b0 : (t131 == 0) = false := beq_eq_false_iff_ne.mpr c3
  have c3b1 : (t131 != 0) = true := bne_iff_ne.mpr c3
  simp only [Option.some.injEq, Prod.mk.injEq] at H
  obtain ⟨rfl, rfl⟩ := H
 case' pos =>
  rw [if_pos c3] at H
  have c3b0 : (t131 == 0) = true := beq_iff_eq.mpr c3
  have c3b1 : (t131 != 0) = false := bne_eq_false_iff_eq.mpr c3
  clear c3
  replace H := Option.bind_eq_some_iff.mp H
  obtain ⟨⟨t132, t133⟩, A40, H⟩ := H
  try dsimp only at H
  have A4 := Aside0.mk A40
  clear A40
  simp only [Option.some.injEq, Prod.mk.injEq] at H
  obtain ⟨rfl, rfl⟩ := H
 all_goals
  go_enter Tq.func54, Try.ntmps54
  go_wp2_with (first | ((with_reducible refine gate_dst (N := 1) rfl ?_); refine box_event ?hg (N := 1) ?hd (cs := #[.int .i64 a0_0, .int .i64 a0_1, .int .i64 a0_2, .int .i64 a0_3, .int .i64 a0_4]) (t := 52) ?hr ?_; (case hd => rfl); (case hg => rfl); (case hr => first | (go_simp; done) | (go_simp; rfl)); intro gb129 hg w5 hbox hb; have BK129 := Aside0.mk (hbox); have GW129 := Aside0.mk ((by rw [hg]; exact (below_size (by exact bw HB.out)) : w.heap.size ≤ gb129)); have GE129 := Aside0.mk ((by rw [hg]; exact (below_size (by exact bw HB.out)) : w.heap.size ≤ gb129)); replace HB := Aside0.mk (below_step (by exact bw HB.out) hb); clear hb hbox hg; obtain ⟨hcz6_0, hcz6_1, hcz6_2, hcz6_3, hcz6_4, hfz6_0, hfz6_1, hfz6_2, hfz6_3, hfz6_4⟩ := cs5 BK129.out) | ((with_reducible refine gate_callee (f := 39) rfl ?_); refine goesL_ (some 8) rfl rfl Tq.func39 (by kernel_rfl) rfl #[.agg #[.int .i64 a0_0, .int .i64 a0_1, .int .i64 a0_2, .int .i64 a0_3, .int .i64 a0_4]] rfl (by (try simp only [List.map_toArray, List.map_cons, List.map_nil]); first | done | rfl | (simp only [List.length_drop, List.length_take]; rfl)) ?_; (with_reducible refine (bpdu_Print.calls a0_0 a0_1 a0_2 a0_3 a0_4 t130 t131 _ A2.out).mono ?_); rintro e w7 ⟨rfl, hb⟩; refine ⟨_, rfl, ?_⟩; replace BK129 := Aside0.mk (blk_below (g := gb129) (o := .cells #[.int .i64 a0_0, .int .i64 a0_1, .int .i64 a0_2, .int .i64 a0_3, .int .i64 a0_4] 52 (0, 0)) (by exact bk BK129.out rfl) hb); replace HB := Aside0.mk (below_step (by exact bw HB.out) hb); (try clear hb); (try clear hb2); (try clear hk); (try clear hi); obtain ⟨hcz8_0, hcz8_1, hcz8_2, hcz8_3, hcz8_4, hfz8_0, hfz8_1, hfz8_2, hfz8_3, hfz8_4⟩ := cs5 BK129.out) | ((with_reducible refine gate_callee (f := 17) rfl ?_); refine goesL_ (some 20) rfl rfl Tq.func17 (by kernel_rfl) rfl #[.agg #[.int .i64 1652522221568, .int .i64 (wrap64 (2199023321088 + a0_2)), .int .i64 32834, .string t130]] rfl (by (try simp only [List.map_toArray, List.map_cons, List.map_nil]); first | done | rfl | (simp only [List.length_drop, List.length_take]; rfl)) ?_; (with_reducible refine (frame_Print.calls k 1652522221568 (wrap64 (2199023321088 + a0_2)) 32834 t130 t132 t133 _ A4.out).mono ?_); rintro e w9 ⟨rfl, hb⟩; refine ⟨_, rfl, ?_⟩; replace BK129 := Aside0.mk (blk_below (g := gb129) (o := .cells #[.int .i64 a0_0, .int .i64 a0_1, .int .i64 a0_2, .int .i64 a0_3, .int .i64 a0_4] 52 (0, 0)) (by exact bk BK129.out rfl) hb); replace HB := Aside0.mk (below_step (by exact bw HB.out) hb); (try clear hb); (try clear hb2); (try clear hk); (try clear hi)))
  go_ret2
  exact ⟨by first | rfl | (simp [errW_none, errW_some] <;> rfl) | (simp [*, errW_none, errW_some] <;> rfl), by exact bw HB.out⟩
def bpdu_Unwrap.f (a0 : ByteArray) : Option (Int × Int × Int × Int × Int × Int) := (frame_Parse.f a0).bind fun bt135 => (if bt135.2.2.2.2 = 0 then (if bt135.1 = 1652522221568 then (if bt135.2.2.1 = 32834 then ((bpdu_Parse.f bt135.2.2.2.1).bind fun bt141 => (if bt141.2.2.2.2.2 = 0 then (if bt135.2.1 = (wrap64 (2199023321088 + bt141.2.2.1)) then (some (bt141.1, bt141.2.1, bt141.2.2.1, bt141.2.2.2.1, bt141.2.2.2.2.1, 0)) else (some (0, 0, 0, 0, 0, 10))) else (some (0, 0, 0, 0, 0, bt141.2.2.2.2.2)))) else (some (0, 0, 0, 0, 0, 10))) else (some (0, 0, 0, 0, 0, 10))) else (some (0, 0, 0, 0, 0, bt135.2.2.2.2)))
set_option maxHeartbeats 8000000 in
set_option maxRecDepth 100000 in
theorem bpdu_Unwrap.calls (a0 : ByteArray) (r1 : Int) (r2 : Int) (r3 : Int) (r4 : Int) (r5 : Int) (r6 : Int) (w : World) (h : bpdu_Unwrap.f a0 = some (r1, r2, r3, r4, r5, r6)) :
  Calls Tq.prog 55 #[.string a0] w fun e w' => e = .returned (.tuple #[.agg #[.int .i64 r1, .int .i64 r2, .int .i64 r3, .int .i64 r4, .int .i64 r5], .int .i64 r6]) ∧ Below w.heap.size w w' := by
 have hu52 := Tq.underlying52
 have hu23 := Tq.underlying23
 have HB := Aside0.mk (Below.refl w.heap.size w)
 have H := h
 unfold bpdu_Unwrap.f at H
 clear h
 replace H := Option.bind_eq_some_iff.mp H
 obtain ⟨⟨t135, t136, t137, t138, t139⟩, A20, H⟩ := H
 try dsimp only at H
 have A2 := Aside0.mk A20
 clear A20
 by_cases c3 : t139 = 0
 ·rw [if_pos c3] at H
  have c3b0 : (t139 == 0) = true := beq_iff_eq.mpr c3
  have c3b1 : (t139 != 0) = false := bne_eq_false_iff_eq.mpr c3
  clear c3
  by_cases c4 : t135 = 1652522221568
  ·rw [if_pos c4] at H
   have c4b0 : (t135 == 1652522221568) = true := beq_iff_eq.mpr c4
   have c4b1 : (t135 != 1652522221568) = false := bne_eq_false_iff_eq.mpr c4
   clear c4
   by_cases c5 : t137 = 32834
   ·rw [if_pos c5] at H
    have c5b0 : (t137 == 32834) = true := beq_iff_eq.mpr c5
    have c5b1 : (t137 != 32834) = false := bne_eq_false_iff_eq.mpr c5
    clear c5
    replace H := Option.bind_eq_some_iff.mp H
    obtain ⟨⟨t141, t142, t143, t144, t145, t146⟩, A60, H⟩ := H
    try dsimp only at H
    have A6 := Aside0.mk A60
    clear A60
    by_cases c7 : t146 = 0
    ·rw [if_pos c7] at H
     have c7b0 : (t146 == 0) = true := beq_iff_eq.mpr c7
     have c7b1 : (t146 != 0) = false := bne_eq_false_iff_eq.mpr c7
     clear c7
     by_cases c8 : t136 = (wrap64 (2199023321088 + t143))
     ·rw [if_pos c8] at H
      have c8b0 : (t136 == (wrap64 (2199023321088 + t143))) = true := beq_iff_eq.mpr c8
      have c8b1 : (t136 != (wrap64 (2199023321088 + t143))) = false := bne_eq_false_iff_eq.mpr c8
      clear c8
      simp only [Option.some.injEq, Prod.mk.injEq] at H
      obtain ⟨rfl, rfl, rfl, rfl, rfl, rfl⟩ := H
      go_enter Tq.func55, Try.ntmps55
      go_wp2_with (first | ((with_reducible refine gate_dst (N := 2) rfl ?_); refine box_event ?hg (N := 2) ?hd (cs := #[.int .i64 0, .int .i64 0, .int .i64 0, .int .i64 0, .int .i64 0]) (t := 52) ?hr ?_; (case hd => rfl); (case hg => rfl); (case hr => first | (go_simp; done) | (go_simp; rfl)); intro gb134 hg w9 hbox hb; have BK134 := Aside0.mk (hbox); have GW134 := Aside0.mk ((by rw [hg]; exact (below_size (by exact bw HB.out)) : w.heap.size ≤ gb134)); have GE134 := Aside0.mk ((by rw [hg]; exact (below_size (by exact bw HB.out)) : w.heap.size ≤ gb134)); replace HB := Aside0.mk (below_step (by exact bw HB.out) hb); clear hb hbox hg) | ((with_reducible refine gate_callee (f := 20) rfl ?_); refine goesL_ (some 9) rfl rfl Tq.func20 (by kernel_rfl) rfl #[.string a0] rfl (by (try simp only [List.map_toArray, List.map_cons, List.map_nil]); first | done | rfl | (simp only [List.length_drop, List.length_take]; rfl)) ?_; (with_reducible refine (frame_Parse.calls a0 t135 t136 t137 t138 t139 _ A2.out).mono ?_); rintro e w10 ⟨rfl, hb⟩; refine ⟨_, rfl, ?_⟩; replace BK134 := Aside0.mk (blk_below (g := gb134) (o := .cells #[.int .i64 0, .int .i64 0, .int .i64 0, .int .i64 0, .int .i64 0] 52 (0, 0)) (by exact bk BK134.out rfl) hb); replace HB := Aside0.mk (below_step (by exact bw HB.out) hb); (try clear hb); (try clear hb2); (try clear hk); (try clear hi)) | ((with_reducible refine gate_dst (N := 4) rfl ?_); refine box_event ?hg (N := 4) ?hd (cs := #[.int .i64 0, .int .i64 0, .int .i64 0, .string (⟨#[]⟩ : ByteArray)]) (t := 23) ?hr ?_; (case hd => rfl); (case hg => rfl); (case hr => first | (go_simp; done) | (go_simp; rfl)); intro gb140 hg w11 hbox hb; have BK140 := Aside0.mk (hbox); have GW140 := Aside0.mk ((by rw [hg]; exact (below_size (by exact bw HB.out)) : w.heap.size ≤ gb140)); have GE140 := Aside0.mk ((by rw [hg]; exact (below_size (by exact bw HB.out)) : w.heap.size ≤ gb140)); replace HB := Aside0.mk (below_step (by exact bw HB.out) hb); have NB134_140 := Aside0.mk ((by rw [hg]; exact Nat.ne_of_lt (bl BK134.out) : gb134 ≠ gb140)); have NB140_134 := Aside0.mk ((by rw [hg]; exact Nat.ne_of_gt (bl BK134.out) : gb140 ≠ gb134)); replace BK134 := Aside0.mk (blk_below (g := gb134) (o := .cells #[.int .i64 0, .int .i64 0, .int .i64 0, .int .i64 0, .int .i64 0] 52 (0, 0)) (by exact bk BK134.out rfl) hb); clear hb hbox hg; have hnb12 := NB140_134.out; have hnc12 := NB134_140.out; obtain ⟨hcz13_0, hcz13_1, hcz13_2, hcz13_3, hfz13_0, hfz13_1, hfz13_2, hfz13_3⟩ := cs4 BK140.out) | ((with_reducible refine gate_callee (f := 41) rfl ?_); refine goesL_ (some 30) rfl rfl Tq.func41 (by kernel_rfl) rfl #[.string t138] rfl (by (try simp only [List.map_toArray, List.map_cons, List.map_nil]); first | done | rfl | (simp only [List.length_drop, List.length_take]; rfl)) ?_; (with_reducible refine (bpdu_Parse.calls t138 t141 t142 t143 t144 t145 t146 _ A6.out).mono ?_); rintro e w14 ⟨rfl, hb⟩; refine ⟨_, rfl, ?_⟩; replace BK134 := Aside0.mk (blk_below (g := gb134) (o := .cells #[.int .i64 0, .int .i64 0, .int .i64 0, .int .i64 0, .int .i64 0] 52 (0, 0)) (by exact bk BK134.out rfl) hb); replace BK140 := Aside0.mk (blk_below (g := gb140) (o := .cells #[.int .i64 t135, .int .i64 t136, .int .i64 t137, .string t138] 23 (0, 0)) (by (with_reducible repeat (first | refine blk_drewN ?_ _ | refine blk_drew ?_ | refine blk_alloc ?_ _)); refine blk_put (cs := #[.int .i64 t135, .int .i64 t136, .int .i64 t137, .string (⟨#[]⟩ : ByteArray)]) ?_ 3 _ rfl; (with_reducible repeat (first | refine blk_drewN ?_ _ | refine blk_drew ?_ | refine blk_alloc ?_ _)); refine blk_put (cs := #[.int .i64 t135, .int .i64 t136, .int .i64 0, .string (⟨#[]⟩ : ByteArray)]) ?_ 2 _ rfl; (with_reducible repeat (first | refine blk_drewN ?_ _ | refine blk_drew ?_ | refine blk_alloc ?_ _)); refine blk_put (cs := #[.int .i64 t135, .int .i64 0, .int .i64 0, .string (⟨#[]⟩ : ByteArray)]) ?_ 1 _ rfl; (with_reducible repeat (first | refine blk_drewN ?_ _ | refine blk_drew ?_ | refine blk_alloc ?_ _)); refine blk_put (cs := #[.int .i64 0, .int .i64 0, .int .i64 0, .string (⟨#[]⟩ : ByteArray)]) ?_ 0 _ rfl; (with_reducible repeat (first | refine blk_drewN ?_ _ | refine blk_drew ?_ | refine blk_alloc ?_ _)); exact BK140.out) hb); replace HB := Aside0.mk (below_step (by exact bw HB.out) hb); (try clear hb); (try clear hb2); (try clear hk); (try clear hi)) | ((with_reducible refine gate_dst (N := 6) rfl ?_); refine box_event ?hg (N := 6) ?hd (cs := #[.int .i64 0, .int .i64 0, .int .i64 0, .int .i64 0, .int .i64 0]) (t := 52) ?hr ?_; (case hd => rfl); (case hg => rfl); (case hr => first | (go_simp; done) | (go_simp; rfl)); intro gb147 hg w15 hbox hb; have BK147 := Aside0.mk (hbox); have GW147 := Aside0.mk ((by rw [hg]; exact (below_size (by exact bw HB.out)) : w.heap.size ≤ gb147)); have GE147 := Aside0.mk ((by rw [hg]; exact (below_size (by exact bw HB.out)) : w.heap.size ≤ gb147)); replace HB := Aside0.mk (below_step (by exact bw HB.out) hb); have NB134_147 := Aside0.mk ((by rw [hg]; exact Nat.ne_of_lt (bl BK134.out) : gb134 ≠ gb147)); have NB147_134 := Aside0.mk ((by rw [hg]; exact Nat.ne_of_gt (bl BK134.out) : gb147 ≠ gb134)); replace BK134 := Aside0.mk (blk_below (g := gb134) (o := .cells #[.int .i64 0, .int .i64 0, .int .i64 0, .int .i64 0, .int .i64 0] 52 (0, 0)) (by exact bk BK134.out rfl) hb); have NB140_147 := Aside0.mk ((by rw [hg]; exact Nat.ne_of_lt (bl BK140.out) : gb140 ≠ gb147)); have NB147_140 := Aside0.mk ((by rw [hg]; exact Nat.ne_of_gt (bl BK140.out) : gb147 ≠ gb140)); replace BK140 := Aside0.mk (blk_below (g := gb140) (o := .cells #[.int .i64 t135, .int .i64 t136, .int .i64 t137, .string t138] 23 (0, 0)) (by exact bk BK140.out rfl) hb); clear hb hbox hg; have hnb16 := NB147_134.out; have hnc16 := NB134_147.out; have hnb17 := NB147_140.out; have hnc17 := NB140_147.out; obtain ⟨hcz18_0, hcz18_1, hcz18_2, hcz18_3, hcz18_4, hfz18_0, hfz18_1, hfz18_2, hfz18_3, hfz18_4⟩ := cs5 BK147.out; obtain ⟨hcz19_0, hcz19_1, hcz19_2, hcz19_3, hfz19_0, hfz19_1, hfz19_2, hfz19_3⟩ := cs4 BK140.out; obtain ⟨hcz20_0, hcz20_1, hcz20_2, hcz20_3, hcz20_4, hfz20_0, hfz20_1, hfz20_2, hfz20_3, hfz20_4⟩ := cs5 BK134.out))
      refine bodyPost_ret (results_ct rfl _ _ gb134 52 #[.int .i64 t141, .int .i64 t142, .int .i64 t143, .int .i64 t144, .int .i64 t145] (0, 0) _ rfl (by exact bk BK134.out rfl) Tq.underlying52 rfl (by kernel_rfl)) rfl ?_
      exact ⟨by first | rfl | (simp [errW_none, errW_some] <;> rfl) | (simp [*, errW_none, errW_some] <;> rfl), by exact bw HB.out⟩
     ·rw [if_neg c8] at H
      have c8b0 : (t136 == (wrap64 (2199023321088 + t143))) = false := beq_eq_false_iff_ne.mpr c8
      have c8b1 : (t136 != (wrap64 (2199023321088 + t143))) = true := bne_iff_ne.mpr c8
      simp only [Option.some.injEq, Prod.mk.injEq] at H
      obtain ⟨rfl, rfl, rfl, rfl, rfl, rfl⟩ := H
      go_enter Tq.func55, Try.ntmps55
      go_wp2_with (first | ((with_reducible refine gate_dst (N := 2) rfl ?_); refine box_event ?hg (N := 2) ?hd (cs := #[.int .i64 0, .int .i64 0, .int .i64 0, .int .i64 0, .int .i64 0]) (t := 52) ?hr ?_; (case hd => rfl); (case hg => rfl); (case hr => first | (go_simp; done) | (go_simp; rfl)); intro gb134 hg w21 hbox hb; have BK134 := Aside0.mk (hbox); have GW134 := Aside0.mk ((by rw [hg]; exact (below_size (by exact bw HB.out)) : w.heap.size ≤ gb134)); have GE134 := Aside0.mk ((by rw [hg]; exact (below_size (by exact bw HB.out)) : w.heap.size ≤ gb134)); replace HB := Aside0.mk (below_step (by exact bw HB.out) hb); clear hb hbox hg) | ((with_reducible refine gate_callee (f := 20) rfl ?_); refine goesL_ (some 9) rfl rfl Tq.func20 (by kernel_rfl) rfl #[.string a0] rfl (by (try simp only [List.map_toArray, List.map_cons, List.map_nil]); first | done | rfl | (simp only [List.length_drop, List.length_take]; rfl)) ?_; (with_reducible refine (frame_Parse.calls a0 t135 t136 t137 t138 t139 _ A2.out).mono ?_); rintro e w22 ⟨rfl, hb⟩; refine ⟨_, rfl, ?_⟩; replace BK134 := Aside0.mk (blk_below (g := gb134) (o := .cells #[.int .i64 0, .int .i64 0, .int .i64 0, .int .i64 0, .int .i64 0] 52 (0, 0)) (by exact bk BK134.out rfl) hb); replace HB := Aside0.mk (below_step (by exact bw HB.out) hb); (try clear hb); (try clear hb2); (try clear hk); (try clear hi)) | ((with_reducible refine gate_dst (N := 4) rfl ?_); refine box_event ?hg (N := 4) ?hd (cs := #[.int .i64 0, .int .i64 0, .int .i64 0, .string (⟨#[]⟩ : ByteArray)]) (t := 23) ?hr ?_; (case hd => rfl); (case hg => rfl); (case hr => first | (go_simp; done) | (go_simp; rfl)); intro gb140 hg w23 hbox hb; have BK140 := Aside0.mk (hbox); have GW140 := Aside0.mk ((by rw [hg]; exact (below_size (by exact bw HB.out)) : w.heap.size ≤ gb140)); have GE140 := Aside0.mk ((by rw [hg]; exact (below_size (by exact bw HB.out)) : w.heap.size ≤ gb140)); replace HB := Aside0.mk (below_step (by exact bw HB.out) hb); have NB134_140 := Aside0.mk ((by rw [hg]; exact Nat.ne_of_lt (bl BK134.out) : gb134 ≠ gb140)); have NB140_134 := Aside0.mk ((by rw [hg]; exact Nat.ne_of_gt (bl BK134.out) : gb140 ≠ gb134)); replace BK134 := Aside0.mk (blk_below (g := gb134) (o := .cells #[.int .i64 0, .int .i64 0, .int .i64 0, .int .i64 0, .int .i64 0] 52 (0, 0)) (by exact bk BK134.out rfl) hb); clear hb hbox hg; have hnb24 := NB140_134.out; have hnc24 := NB134_140.out; obtain ⟨hcz25_0, hcz25_1, hcz25_2, hcz25_3, hfz25_0, hfz25_1, hfz25_2, hfz25_3⟩ := cs4 BK140.out) | ((with_reducible refine gate_callee (f := 41) rfl ?_); refine goesL_ (some 30) rfl rfl Tq.func41 (by kernel_rfl) rfl #[.string t138] rfl (by (try simp only [List.map_toArray, List.map_cons, List.map_nil]); first | done | rfl | (simp only [List.length_drop, List.length_take]; rfl)) ?_; (with_reducible refine (bpdu_Parse.calls t138 t141 t142 t143 t144 t145 t146 _ A6.out).mono ?_); rintro e w26 ⟨rfl, hb⟩; refine ⟨_, rfl, ?_⟩; replace BK134 := Aside0.mk (blk_below (g := gb134) (o := .cells #[.int .i64 0, .int .i64 0, .int .i64 0, .int .i64 0, .int .i64 0] 52 (0, 0)) (by exact bk BK134.out rfl) hb); replace BK140 := Aside0.mk (blk_below (g := gb140) (o := .cells #[.int .i64 t135, .int .i64 t136, .int .i64 t137, .string t138] 23 (0, 0)) (by (with_reducible repeat (first | refine blk_drewN ?_ _ | refine blk_drew ?_ | refine blk_alloc ?_ _)); refine blk_put (cs := #[.int .i64 t135, .int .i64 t136, .int .i64 t137, .string (⟨#[]⟩ : ByteArray)]) ?_ 3 _ rfl; (with_reducible repeat (first | refine blk_drewN ?_ _ | refine blk_drew ?_ | refine blk_alloc ?_ _)); refine blk_put (cs := #[.int .i64 t135, .int .i64 t136, .int .i64 0, .string (⟨#[]⟩ : ByteArray)]) ?_ 2 _ rfl; (with_reducible repeat (first | refine blk_drewN ?_ _ | refine blk_drew ?_ | refine blk_alloc ?_ _)); refine blk_put (cs := #[.int .i64 t135, .int .i64 0, .int .i64 0, .string (⟨#[]⟩ : ByteArray)]) ?_ 1 _ rfl; (with_reducible repeat (first | refine blk_drewN ?_ _ | refine blk_drew ?_ | refine blk_alloc ?_ _)); refine blk_put (cs := #[.int .i64 0, .int .i64 0, .int .i64 0, .string (⟨#[]⟩ : ByteArray)]) ?_ 0 _ rfl; (with_reducible repeat (first | refine blk_drewN ?_ _ | refine blk_drew ?_ | refine blk_alloc ?_ _)); exact BK140.out) hb); replace HB := Aside0.mk (below_step (by exact bw HB.out) hb); (try clear hb); (try clear hb2); (try clear hk); (try clear hi)) | ((with_reducible refine gate_dst (N := 6) rfl ?_); refine box_event ?hg (N := 6) ?hd (cs := #[.int .i64 0, .int .i64 0, .int .i64 0, .int .i64 0, .int .i64 0]) (t := 52) ?hr ?_; (case hd => rfl); (case hg => rfl); (case hr => first | (go_simp; done) | (go_simp; rfl)); intro gb147 hg w27 hbox hb; have BK147 := Aside0.mk (hbox); have GW147 := Aside0.mk ((by rw [hg]; exact (below_size (by exact bw HB.out)) : w.heap.size ≤ gb147)); have GE147 := Aside0.mk ((by rw [hg]; exact (below_size (by exact bw HB.out)) : w.heap.size ≤ gb147)); replace HB := Aside0.mk (below_step (by exact bw HB.out) hb); have NB134_147 := Aside0.mk ((by rw [hg]; exact Nat.ne_of_lt (bl BK134.out) : gb134 ≠ gb147)); have NB147_134 := Aside0.mk ((by rw [hg]; exact Nat.ne_of_gt (bl BK134.out) : gb147 ≠ gb134)); replace BK134 := Aside0.mk (blk_below (g := gb134) (o := .cells #[.int .i64 0, .int .i64 0, .int .i64 0, .int .i64 0, .int .i64 0] 52 (0, 0)) (by exact bk BK134.out rfl) hb); have NB140_147 := Aside0.mk ((by rw [hg]; exact Nat.ne_of_lt (bl BK140.out) : gb140 ≠ gb147)); have NB147_140 := Aside0.mk ((by rw [hg]; exact Nat.ne_of_gt (bl BK140.out) : gb147 ≠ gb140)); replace BK140 := Aside0.mk (blk_below (g := gb140) (o := .cells #[.int .i64 t135, .int .i64 t136, .int .i64 t137, .string t138] 23 (0, 0)) (by exact bk BK140.out rfl) hb); clear hb hbox hg; have hnb28 := NB147_134.out; have hnc28 := NB134_147.out; have hnb29 := NB147_140.out; have hnc29 := NB140_147.out; obtain ⟨hcz30_0, hcz30_1, hcz30_2, hcz30_3, hcz30_4, hfz30_0, hfz30_1, hfz30_2, hfz30_3, hfz30_4⟩ := cs5 BK147.out; obtain ⟨hcz31_0, hcz31_1, hcz31_2, hcz31_3, hfz31_0, hfz31_1, hfz31_2, hfz31_3⟩ := cs4 BK140.out; obtain ⟨hcz32_0, hcz32_1, hcz32_2, hcz32_3, hcz32_4, hfz32_0, hfz32_1, hfz32_2, hfz32_3, hfz32_4⟩ := cs5 BK134.out))
      refine bodyPost_ret (results_ct rfl _ _ gb134 52 #[.int .i64 0, .int .i64 0, .int .i64 0, .int .i64 0, .int .i64 0] (0, 0) _ rfl (by exact bk BK134.out rfl) Tq.underlying52 rfl (by kernel_rfl)) rfl ?_
      exact ⟨by first | rfl | (simp [errW_none, errW_some] <;> rfl) | (simp [*, errW_none, errW_some] <;> rfl), by exact bw HB.out⟩
    ·rw [if_neg c7] at H
     have c7b0 : (t146 == 0) = false := beq_eq_false_iff_ne.mpr c7
     have c7b1 : (t146 != 0) = true := bne_iff_ne.mpr c7
     simp only [Option.some.injEq, Prod.mk.injEq] at H
     obtain ⟨rfl, rfl, rfl, rfl, rfl, rfl⟩ := H
     go_enter Tq.func55, Try.ntmps55
     go_wp2_with (first | ((with_reducible refine gate_dst (N := 2) rfl ?_); refine box_event ?hg (N := 2) ?hd (cs := #[.int .i64 0, .int .i64 0, .int .i64 0, .int .i64 0, .int .i64 0]) (t := 52) ?hr ?_; (case hd => rfl); (case hg => rfl); (case hr => first | (go_simp; done) | (go_simp; rfl)); intro gb134 hg w33 hbox hb; have BK134 := Aside0.mk (hbox); have GW134 := Aside0.mk ((by rw [hg]; exact (below_size (by exact bw HB.out)) : w.heap.size ≤ gb134)); have GE134 := Aside0.mk ((by rw [hg]; exact (below_size (by exact bw HB.out)) : w.heap.size ≤ gb134)); replace HB := Aside0.mk (below_step (by exact bw HB.out) hb); clear hb hbox hg) | ((with_reducible refine gate_callee (f := 20) rfl ?_); refine goesL_ (some 9) rfl rfl Tq.func20 (by kernel_rfl) rfl #[.string a0] rfl (by (try simp only [List.map_toArray, List.map_cons, List.map_nil]); first | done | rfl | (simp only [List.length_drop, List.length_take]; rfl)) ?_; (with_reducible refine (frame_Parse.calls a0 t135 t136 t137 t138 t139 _ A2.out).mono ?_); rintro e w34 ⟨rfl, hb⟩; refine ⟨_, rfl, ?_⟩; replace BK134 := Aside0.mk (blk_below (g := gb134) (o := .cells #[.int .i64 0, .int .i64 0, .int .i64 0, .int .i64 0, .int .i64 0] 52 (0, 0)) (by exact bk BK134.out rfl) hb); replace HB := Aside0.mk (below_step (by exact bw HB.out) hb); (try clear hb); (try clear hb2); (try clear hk); (try clear hi)) | ((with_reducible refine gate_dst (N := 4) rfl ?_); refine box_event ?hg (N := 4) ?hd (cs := #[.int .i64 0, .int .i64 0, .int .i64 0, .string (⟨#[]⟩ : ByteArray)]) (t := 23) ?hr ?_; (case hd => rfl); (case hg => rfl); (case hr => first | (go_simp; done) | (go_simp; rfl)); intro gb140 hg w35 hbox hb; have BK140 := Aside0.mk (hbox); have GW140 := Aside0.mk ((by rw [hg]; exact (below_size (by exact bw HB.out)) : w.heap.size ≤ gb140)); have GE140 := Aside0.mk ((by rw [hg]; exact (below_size (by exact bw HB.out)) : w.heap.size ≤ gb140)); replace HB := Aside0.mk (below_step (by exact bw HB.out) hb); have NB134_140 := Aside0.mk ((by rw [hg]; exact Nat.ne_of_lt (bl BK134.out) : gb134 ≠ gb140)); have NB140_134 := Aside0.mk ((by rw [hg]; exact Nat.ne_of_gt (bl BK134.out) : gb140 ≠ gb134)); replace BK134 := Aside0.mk (blk_below (g := gb134) (o := .cells #[.int .i64 0, .int .i64 0, .int .i64 0, .int .i64 0, .int .i64 0] 52 (0, 0)) (by exact bk BK134.out rfl) hb); clear hb hbox hg; have hnb36 := NB140_134.out; have hnc36 := NB134_140.out; obtain ⟨hcz37_0, hcz37_1, hcz37_2, hcz37_3, hfz37_0, hfz37_1, hfz37_2, hfz37_3⟩ := cs4 BK140.out) | ((with_reducible refine gate_callee (f := 41) rfl ?_); refine goesL_ (some 30) rfl rfl Tq.func41 (by kernel_rfl) rfl #[.string t138] rfl (by (try simp only [List.map_toArray, List.map_cons, List.map_nil]); first | done | rfl | (simp only [List.length_drop, List.length_take]; rfl)) ?_; (with_reducible refine (bpdu_Parse.calls t138 t141 t142 t143 t144 t145 t146 _ A6.out).mono ?_); rintro e w38 ⟨rfl, hb⟩; refine ⟨_, rfl, ?_⟩; replace BK134 := Aside0.mk (blk_below (g := gb134) (o := .cells #[.int .i64 0, .int .i64 0, .int .i64 0, .int .i64 0, .int .i64 0] 52 (0, 0)) (by exact bk BK134.out rfl) hb); replace BK140 := Aside0.mk (blk_below (g := gb140) (o := .cells #[.int .i64 t135, .int .i64 t136, .int .i64 t137, .string t138] 23 (0, 0)) (by (with_reducible repeat (first | refine blk_drewN ?_ _ | refine blk_drew ?_ | refine blk_alloc ?_ _)); refine blk_put (cs := #[.int .i64 t135, .int .i64 t136, .int .i64 t137, .string (⟨#[]⟩ : ByteArray)]) ?_ 3 _ rfl; (with_reducible repeat (first | refine blk_drewN ?_ _ | refine blk_drew ?_ | refine blk_alloc ?_ _)); refine blk_put (cs := #[.int .i64 t135, .int .i64 t136, .int .i64 0, .string (⟨#[]⟩ : ByteArray)]) ?_ 2 _ rfl; (with_reducible repeat (first | refine blk_drewN ?_ _ | refine blk_drew ?_ | refine blk_alloc ?_ _)); refine blk_put (cs := #[.int .i64 t135, .int .i64 0, .int .i64 0, .string (⟨#[]⟩ : ByteArray)]) ?_ 1 _ rfl; (with_reducible repeat (first | refine blk_drewN ?_ _ | refine blk_drew ?_ | refine blk_alloc ?_ _)); refine blk_put (cs := #[.int .i64 0, .int .i64 0, .int .i64 0, .string (⟨#[]⟩ : ByteArray)]) ?_ 0 _ rfl; (with_reducible repeat (first | refine blk_drewN ?_ _ | refine blk_drew ?_ | refine blk_alloc ?_ _)); exact BK140.out) hb); replace HB := Aside0.mk (below_step (by exact bw HB.out) hb); (try clear hb); (try clear hb2); (try clear hk); (try clear hi)) | ((with_reducible refine gate_dst (N := 6) rfl ?_); refine box_event ?hg (N := 6) ?hd (cs := #[.int .i64 0, .int .i64 0, .int .i64 0, .int .i64 0, .int .i64 0]) (t := 52) ?hr ?_; (case hd => rfl); (case hg => rfl); (case hr => first | (go_simp; done) | (go_simp; rfl)); intro gb147 hg w39 hbox hb; have BK147 := Aside0.mk (hbox); have GW147 := Aside0.mk ((by rw [hg]; exact (below_size (by exact bw HB.out)) : w.heap.size ≤ gb147)); have GE147 := Aside0.mk ((by rw [hg]; exact (below_size (by exact bw HB.out)) : w.heap.size ≤ gb147)); replace HB := Aside0.mk (below_step (by exact bw HB.out) hb); have NB134_147 := Aside0.mk ((by rw [hg]; exact Nat.ne_of_lt (bl BK134.out) : gb134 ≠ gb147)); have NB147_134 := Aside0.mk ((by rw [hg]; exact Nat.ne_of_gt (bl BK134.out) : gb147 ≠ gb134)); replace BK134 := Aside0.mk (blk_below (g := gb134) (o := .cells #[.int .i64 0, .int .i64 0, .int .i64 0, .int .i64 0, .int .i64 0] 52 (0, 0)) (by exact bk BK134.out rfl) hb); have NB140_147 := Aside0.mk ((by rw [hg]; exact Nat.ne_of_lt (bl BK140.out) : gb140 ≠ gb147)); have NB147_140 := Aside0.mk ((by rw [hg]; exact Nat.ne_of_gt (bl BK140.out) : gb147 ≠ gb140)); replace BK140 := Aside0.mk (blk_below (g := gb140) (o := .cells #[.int .i64 t135, .int .i64 t136, .int .i64 t137, .string t138] 23 (0, 0)) (by exact bk BK140.out rfl) hb); clear hb hbox hg; have hnb40 := NB147_134.out; have hnc40 := NB134_147.out; have hnb41 := NB147_140.out; have hnc41 := NB140_147.out; obtain ⟨hcz42_0, hcz42_1, hcz42_2, hcz42_3, hcz42_4, hfz42_0, hfz42_1, hfz42_2, hfz42_3, hfz42_4⟩ := cs5 BK147.out; obtain ⟨hcz43_0, hcz43_1, hcz43_2, hcz43_3, hcz43_4, hfz43_0, hfz43_1, hfz43_2, hfz43_3, hfz43_4⟩ := cs5 BK134.out))
     refine bodyPost_ret (results_ct rfl _ _ gb134 52 #[.int .i64 0, .int .i64 0, .int .i64 0, .int .i64 0, .int .i64 0] (0, 0) _ rfl (by exact bk BK134.out rfl) Tq.underlying52 rfl (by kernel_rfl)) rfl ?_
     exact ⟨by first | rfl | (simp [errW_none, errW_some] <;> rfl) | (simp [*, errW_none, errW_some] <;> rfl), by exact bw HB.out⟩
   ·rw [if_neg c5] at H
    have c5b0 : (t137 == 32834) = false := beq_eq_false_iff_ne.mpr c5
    have c5b1 : (t137 != 32834) = true := bne_iff_ne.mpr c5
    simp only [Option.some.injEq, Prod.mk.injEq] at H
    obtain ⟨rfl, rfl, rfl, rfl, rfl, rfl⟩ := H
    go_enter Tq.func55, Try.ntmps55
    go_wp2_with (first | ((with_reducible refine gate_dst (N := 2) rfl ?_); refine box_event ?hg (N := 2) ?hd (cs := #[.int .i64 0, .int .i64 0, .int .i64 0, .int .i64 0, .int .i64 0]) (t := 52) ?hr ?_; (case hd => rfl); (case hg => rfl); (case hr => first | (go_simp; done) | (go_simp; rfl)); intro gb134 hg w44 hbox hb; have BK134 := Aside0.mk (hbox); have GW134 := Aside0.mk ((by rw [hg]; exact (below_size (by exact bw HB.out)) : w.heap.size ≤ gb134)); have GE134 := Aside0.mk ((by rw [hg]; exact (below_size (by exact bw HB.out)) : w.heap.size ≤ gb134)); replace HB := Aside0.mk (below_step (by exact bw HB.out) hb); clear hb hbox hg) | ((with_reducible refine gate_callee (f := 20) rfl ?_); refine goesL_ (some 9) rfl rfl Tq.func20 (by kernel_rfl) rfl #[.string a0] rfl (by (try simp only [List.map_toArray, List.map_cons, List.map_nil]); first | done | rfl | (simp only [List.length_drop, List.length_take]; rfl)) ?_; (with_reducible refine (frame_Parse.calls a0 t135 t136 t137 t138 t139 _ A2.out).mono ?_); rintro e w45 ⟨rfl, hb⟩; refine ⟨_, rfl, ?_⟩; replace BK134 := Aside0.mk (blk_below (g := gb134) (o := .cells #[.int .i64 0, .int .i64 0, .int .i64 0, .int .i64 0, .int .i64 0] 52 (0, 0)) (by exact bk BK134.out rfl) hb); replace HB := Aside0.mk (below_step (by exact bw HB.out) hb); (try clear hb); (try clear hb2); (try clear hk); (try clear hi)) | ((with_reducible refine gate_dst (N := 4) rfl ?_); refine box_event ?hg (N := 4) ?hd (cs := #[.int .i64 0, .int .i64 0, .int .i64 0, .string (⟨#[]⟩ : ByteArray)]) (t := 23) ?hr ?_; (case hd => rfl); (case hg => rfl); (case hr => first | (go_simp; done) | (go_simp; rfl)); intro gb140 hg w46 hbox hb; have BK140 := Aside0.mk (hbox); have GW140 := Aside0.mk ((by rw [hg]; exact (below_size (by exact bw HB.out)) : w.heap.size ≤ gb140)); have GE140 := Aside0.mk ((by rw [hg]; exact (below_size (by exact bw HB.out)) : w.heap.size ≤ gb140)); replace HB := Aside0.mk (below_step (by exact bw HB.out) hb); have NB134_140 := Aside0.mk ((by rw [hg]; exact Nat.ne_of_lt (bl BK134.out) : gb134 ≠ gb140)); have NB140_134 := Aside0.mk ((by rw [hg]; exact Nat.ne_of_gt (bl BK134.out) : gb140 ≠ gb134)); replace BK134 := Aside0.mk (blk_below (g := gb134) (o := .cells #[.int .i64 0, .int .i64 0, .int .i64 0, .int .i64 0, .int .i64 0] 52 (0, 0)) (by exact bk BK134.out rfl) hb); clear hb hbox hg; have hnb47 := NB140_134.out; have hnc47 := NB134_140.out; obtain ⟨hcz48_0, hcz48_1, hcz48_2, hcz48_3, hfz48_0, hfz48_1, hfz48_2, hfz48_3⟩ := cs4 BK140.out; obtain ⟨hcz49_0, hcz49_1, hcz49_2, hcz49_3, hcz49_4, hfz49_0, hfz49_1, hfz49_2, hfz49_3, hfz49_4⟩ := cs5 BK134.out))
    refine bodyPost_ret (results_ct rfl _ _ gb134 52 #[.int .i64 0, .int .i64 0, .int .i64 0, .int .i64 0, .int .i64 0] (0, 0) _ rfl (by exact bk BK134.out rfl) Tq.underlying52 rfl (by kernel_rfl)) rfl ?_
    exact ⟨by first | rfl | (simp [errW_none, errW_some] <;> rfl) | (simp [*, errW_none, errW_some] <;> rfl), by exact bw HB.out⟩
  ·rw [if_neg c4] at H
   have c4b0 : (t135 == 1652522221568) = false := beq_eq_false_iff_ne.mpr c4
   have c4b1 : (t135 != 1652522221568) = true := bne_iff_ne.mpr c4
   simp only [Option.some.injEq, Prod.mk.injEq] at H
   obtain ⟨rfl, rfl, rfl, rfl, rfl, rfl⟩ := H
   go_enter Tq.func55, Try.ntmps55
   go_wp2_with (first | ((with_reducible refine gate_dst (N := 2) rfl ?_); refine box_event ?hg (N := 2) ?hd (cs := #[.int .i64 0, .int .i64 0, .int .i64 0, .int .i64 0, .int .i64 0]) (t := 52) ?hr ?_; (case hd => rfl); (case hg => rfl); (case hr => first | (go_simp; done) | (go_simp; rfl)); intro gb134 hg w50 hbox hb; have BK134 := Aside0.mk (hbox); have GW134 := Aside0.mk ((by rw [hg]; exact (below_size (by exact bw HB.out)) : w.heap.size ≤ gb134)); have GE134 := Aside0.mk ((by rw [hg]; exact (below_size (by exact bw HB.out)) : w.heap.size ≤ gb134)); replace HB := Aside0.mk (below_step (by exact bw HB.out) hb); clear hb hbox hg) | ((with_reducible refine gate_callee (f := 20) rfl ?_); refine goesL_ (some 9) rfl rfl Tq.func20 (by kernel_rfl) rfl #[.string a0] rfl (by (try simp only [List.map_toArray, List.map_cons, List.map_nil]); first | done | rfl | (simp only [List.length_drop, List.length_take]; rfl)) ?_; (with_reducible refine (frame_Parse.calls a0 t135 t136 t137 t138 t139 _ A2.out).mono ?_); rintro e w51 ⟨rfl, hb⟩; refine ⟨_, rfl, ?_⟩; replace BK134 := Aside0.mk (blk_below (g := gb134) (o := .cells #[.int .i64 0, .int .i64 0, .int .i64 0, .int .i64 0, .int .i64 0] 52 (0, 0)) (by exact bk BK134.out rfl) hb); replace HB := Aside0.mk (below_step (by exact bw HB.out) hb); (try clear hb); (try clear hb2); (try clear hk); (try clear hi)) | ((with_reducible refine gate_dst (N := 4) rfl ?_); refine box_event ?hg (N := 4) ?hd (cs := #[.int .i64 0, .int .i64 0, .int .i64 0, .string (⟨#[]⟩ : ByteArray)]) (t := 23) ?hr ?_; (case hd => rfl); (case hg => rfl); (case hr => first | (go_simp; done) | (go_simp; rfl)); intro gb140 hg w52 hbox hb; have BK140 := Aside0.mk (hbox); have GW140 := Aside0.mk ((by rw [hg]; exact (below_size (by exact bw HB.out)) : w.heap.size ≤ gb140)); have GE140 := Aside0.mk ((by rw [hg]; exact (below_size (by exact bw HB.out)) : w.heap.size ≤ gb140)); replace HB := Aside0.mk (below_step (by exact bw HB.out) hb); have NB134_140 := Aside0.mk ((by rw [hg]; exact Nat.ne_of_lt (bl BK134.out) : gb134 ≠ gb140)); have NB140_134 := Aside0.mk ((by rw [hg]; exact Nat.ne_of_gt (bl BK134.out) : gb140 ≠ gb134)); replace BK134 := Aside0.mk (blk_below (g := gb134) (o := .cells #[.int .i64 0, .int .i64 0, .int .i64 0, .int .i64 0, .int .i64 0] 52 (0, 0)) (by exact bk BK134.out rfl) hb); clear hb hbox hg; have hnb53 := NB140_134.out; have hnc53 := NB134_140.out; obtain ⟨hcz54_0, hcz54_1, hcz54_2, hcz54_3, hfz54_0, hfz54_1, hfz54_2, hfz54_3⟩ := cs4 BK140.out; obtain ⟨hcz55_0, hcz55_1, hcz55_2, hcz55_3, hcz55_4, hfz55_0, hfz55_1, hfz55_2, hfz55_3, hfz55_4⟩ := cs5 BK134.out))
   refine bodyPost_ret (results_ct rfl _ _ gb134 52 #[.int .i64 0, .int .i64 0, .int .i64 0, .int .i64 0, .int .i64 0] (0, 0) _ rfl (by exact bk BK134.out rfl) Tq.underlying52 rfl (by kernel_rfl)) rfl ?_
   exact ⟨by first | rfl | (simp [errW_none, errW_some] <;> rfl) | (simp [*, errW_none, errW_some] <;> rfl), by exact bw HB.out⟩
 ·rw [if_neg c3] at H
  have c3b0 : (t139 == 0) = false := beq_eq_false_iff_ne.mpr c3
  have c3b1 : (t139 != 0) = true := bne_iff_ne.mpr c3
  simp only [Option.some.injEq, Prod.mk.injEq] at H
  obtain ⟨rfl, rfl, rfl, rfl, rfl, rfl⟩ := H
  go_enter Tq.func55, Try.ntmps55
  go_wp2_with (first | ((with_reducible refine gate_dst (N := 2) rfl ?_); refine box_event ?hg (N := 2) ?hd (cs := #[.int .i64 0, .int .i64 0, .int .i64 0, .int .i64 0, .int .i64 0]) (t := 52) ?hr ?_; (case hd => rfl); (case hg => rfl); (case hr => first | (go_simp; done) | (go_simp; rfl)); intro gb134 hg w56 hbox hb; have BK134 := Aside0.mk (hbox); have GW134 := Aside0.mk ((by rw [hg]; exact (below_size (by exact bw HB.out)) : w.heap.size ≤ gb134)); have GE134 := Aside0.mk ((by rw [hg]; exact (below_size (by exact bw HB.out)) : w.heap.size ≤ gb134)); replace HB := Aside0.mk (below_step (by exact bw HB.out) hb); clear hb hbox hg) | ((with_reducible refine gate_callee (f := 20) rfl ?_); refine goesL_ (some 9) rfl rfl Tq.func20 (by kernel_rfl) rfl #[.string a0] rfl (by (try simp only [List.map_toArray, List.map_cons, List.map_nil]); first | done | rfl | (simp only [List.length_drop, List.length_take]; rfl)) ?_; (with_reducible refine (frame_Parse.calls a0 t135 t136 t137 t138 t139 _ A2.out).mono ?_); rintro e w57 ⟨rfl, hb⟩; refine ⟨_, rfl, ?_⟩; replace BK134 := Aside0.mk (blk_below (g := gb134) (o := .cells #[.int .i64 0, .int .i64 0, .int .i64 0, .int .i64 0, .int .i64 0] 52 (0, 0)) (by exact bk BK134.out rfl) hb); replace HB := Aside0.mk (below_step (by exact bw HB.out) hb); (try clear hb); (try clear hb2); (try clear hk); (try clear hi)) | ((with_reducible refine gate_dst (N := 4) rfl ?_); refine box_event ?hg (N := 4) ?hd (cs := #[.int .i64 0, .int .i64 0, .int .i64 0, .string (⟨#[]⟩ : ByteArray)]) (t := 23) ?hr ?_; (case hd => rfl); (case hg => rfl); (case hr => first | (go_simp; done) | (go_simp; rfl)); intro gb140 hg w58 hbox hb; have BK140 := Aside0.mk (hbox); have GW140 := Aside0.mk ((by rw [hg]; exact (below_size (by exact bw HB.out)) : w.heap.size ≤ gb140)); have GE140 := Aside0.mk ((by rw [hg]; exact (below_size (by exact bw HB.out)) : w.heap.size ≤ gb140)); replace HB := Aside0.mk (below_step (by exact bw HB.out) hb); have NB134_140 := Aside0.mk ((by rw [hg]; exact Nat.ne_of_lt (bl BK134.out) : gb134 ≠ gb140)); have NB140_134 := Aside0.mk ((by rw [hg]; exact Nat.ne_of_gt (bl BK134.out) : gb140 ≠ gb134)); replace BK134 := Aside0.mk (blk_below (g := gb134) (o := .cells #[.int .i64 0, .int .i64 0, .int .i64 0, .int .i64 0, .int .i64 0] 52 (0, 0)) (by exact bk BK134.out rfl) hb); clear hb hbox hg; have hnb59 := NB140_134.out; have hnc59 := NB134_140.out; obtain ⟨hcz60_0, hcz60_1, hcz60_2, hcz60_3, hfz60_0, hfz60_1, hfz60_2, hfz60_3⟩ := cs4 BK140.out; obtain ⟨hcz61_0, hcz61_1, hcz61_2, hcz61_3, hcz61_4, hfz61_0, hfz61_1, hfz61_2, hfz61_3, hfz61_4⟩ := cs5 BK134.out))
  refine bodyPost_ret (results_ct rfl _ _ gb134 52 #[.int .i64 0, .int .i64 0, .int .i64 0, .int .i64 0, .int .i64 0] (0, 0) _ rfl (by exact bk BK134.out rfl) Tq.underlying52 rfl (by kernel_rfl)) rfl ?_
  exact ⟨by first | rfl | (simp [errW_none, errW_some] <;> rfl) | (simp [*, errW_none, errW_some] <;> rfl), by exact bw HB.out⟩
def footwayref03_Right.f (a0_0 : Int) (a0_1 : Int) (a0_2 : Int) (a0_3 : Int) (a0_4 : Int) : Option (Bool) := if a0_0 ≥ 0 then (if a0_0 < 65536 then (if a0_2 ≥ 0 then (if a0_2 < 65536 then (if a0_1 ≥ 0 then (if a0_1 < 2147483648 then (if a0_3 ≥ 0 then (if a0_3 < 8 then (if a0_4 ≥ 0 then (some (decide (a0_4 < 256))) else (some false)) else (some false)) else (some false)) else (some false)) else (some false)) else (some false)) else (some false)) else (some false)) else (some false)
set_option maxHeartbeats 8000000 in
set_option maxRecDepth 100000 in
theorem footwayref03_Right.calls (a0_0 : Int) (a0_1 : Int) (a0_2 : Int) (a0_3 : Int) (a0_4 : Int) (r : Bool) (w : World) (h : footwayref03_Right.f a0_0 a0_1 a0_2 a0_3 a0_4 = some r) :
  Calls Tq.prog 59 #[.agg #[.int .i64 a0_0, .int .i64 a0_1, .int .i64 a0_2, .int .i64 a0_3, .int .i64 a0_4]] w fun e w' => e = .returned (.bool r) ∧ Below w.heap.size w w' := by
 have hu52 := Tq.underlying52
 have hu50 := Tq.underlying50
 have HB := Aside0.mk (Below.refl w.heap.size w)
 have H := h
 unfold footwayref03_Right.f at H
 clear h
 by_cases c2 : a0_0 ≥ 0
 case' neg =>
  rw [if_neg c2] at H
  have c2b0 : decide (0 ≤ a0_0) = false := decide_eq_false c2
  clear c2
  obtain rfl := Option.some.inj H
 case' pos =>
  rw [if_pos c2] at H
  have c2b0 : decide (0 ≤ a0_0) = true := decide_eq_true c2
  clear c2
  by_cases c3 : a0_0 < 65536
  case' neg =>
   rw [if_neg c3] at H
   have c3b0 : decide (a0_0 < 65536) = false := decide_eq_false c3
   clear c3
   obtain rfl := Option.some.inj H
  case' pos =>
   rw [if_pos c3] at H
   have c3b0 : decide (a0_0 < 65536) = true := decide_eq_true c3
   clear c3
   by_cases c4 : a0_2 ≥ 0
   case' neg =>
    rw [if_neg c4] at H
    have c4b0 : decide (0 ≤ a0_2) = false := decide_eq_false c4
    clear c4
    obtain rfl := Option.some.inj H
   case' pos =>
    rw [if_pos c4] at H
    have c4b0 : decide (0 ≤ a0_2) = true := decide_eq_true c4
    clear c4
    by_cases c5 : a0_2 < 65536
    case' neg =>
     rw [if_neg c5] at H
     have c5b0 : decide (a0_2 < 65536) = false := decide_eq_false c5
     clear c5
     obtain rfl := Option.some.inj H
    case' pos =>
     rw [if_pos c5] at H
     have c5b0 : decide (a0_2 < 65536) = true := decide_eq_true c5
     clear c5
     by_cases c6 : a0_1 ≥ 0
     case' neg =>
      rw [if_neg c6] at H
      have c6b0 : decide (0 ≤ a0_1) = false := decide_eq_false c6
      clear c6
      obtain rfl := Option.some.inj H
     case' pos =>
      rw [if_pos c6] at H
      have c6b0 : decide (0 ≤ a0_1) = true := decide_eq_true c6
      clear c6
      by_cases c7 : a0_1 < 2147483648
      case' neg =>
       rw [if_neg c7] at H
       have c7b0 : decide (a0_1 < 2147483648) = false := decide_eq_false c7
       clear c7
       obtain rfl := Option.some.inj H
      case' pos =>
       rw [if_pos c7] at H
       have c7b0 : decide (a0_1 < 2147483648) = true := decide_eq_true c7
       clear c7
       by_cases c8 : a0_3 ≥ 0
       case' neg =>
        rw [if_neg c8] at H
        have c8b0 : decide (0 ≤ a0_3) = false := decide_eq_false c8
        clear c8
        obtain rfl := Option.some.inj H
       case' pos =>
        rw [if_pos c8] at H
        have c8b0 : decide (0 ≤ a0_3) = true := decide_eq_true c8
        clear c8
        by_cases c9 : a0_3 < 8
        case' neg =>
         rw [if_neg c9] at H
         have c9b0 : decide (a0_3 < 8) = false := decide_eq_false c9
         clear c9
         obtain rfl := Option.some.inj H
        case' pos =>
         rw [if_pos c9] at H
         have c9b0 : decide (a0_3 < 8) = true := decide_eq_true c9
         clear c9
         by_cases c10 : a0_4 ≥ 0
         case' neg =>
          rw [if_neg c10] at H
          have c10b0 : decide (0 ≤ a0_4) = false := decide_eq_false c10
          clear c10
          obtain rfl := Option.some.inj H
         case' pos =>
          rw [if_pos c10] at H
          have c10b0 : decide (0 ≤ a0_4) = true := decide_eq_true c10
          clear c10
          obtain rfl := Option.some.inj H
 all_goals
  go_enter Tq.func59, Try.ntmps59
  go_wp2_with (first | ((with_reducible refine gate_dst (N := 1) rfl ?_); refine box_event ?hg (N := 1) ?hd (cs := #[.int .i64 a0_0, .int .i64 a0_1, .int .i64 a0_2, .int .i64 a0_3, .int .i64 a0_4]) (t := 52) ?hr ?_; (case hd => rfl); (case hg => rfl); (case hr => first | (go_simp; done) | (go_simp; rfl)); intro gb148 hg w11 hbox hb; have BK148 := Aside0.mk (hbox); have GW148 := Aside0.mk ((by rw [hg]; exact (below_size (by exact bw HB.out)) : w.heap.size ≤ gb148)); have GE148 := Aside0.mk ((by rw [hg]; exact (below_size (by exact bw HB.out)) : w.heap.size ≤ gb148)); replace HB := Aside0.mk (below_step (by exact bw HB.out) hb); clear hb hbox hg; obtain ⟨hcz12_0, hcz12_1, hcz12_2, hcz12_3, hcz12_4, hfz12_0, hfz12_1, hfz12_2, hfz12_3, hfz12_4⟩ := cs5 BK148.out) | ((with_reducible refine gate_dst (N := 3) rfl ?_); refine box_event ?hg (N := 3) ?hd (cs := #[.int .i64 0, .int .i64 0, .int .i64 0, .int .i64 0]) (t := 50) ?hr ?_; (case hd => rfl); (case hg => rfl); (case hr => first | (go_simp; done) | (go_simp; rfl)); intro gb149 hg w13 hbox hb; have BK149 := Aside0.mk (hbox); have GW149 := Aside0.mk ((by rw [hg]; exact (below_size (by exact bw HB.out)) : w.heap.size ≤ gb149)); have GE149 := Aside0.mk ((by rw [hg]; exact (below_size (by exact bw HB.out)) : w.heap.size ≤ gb149)); replace HB := Aside0.mk (below_step (by exact bw HB.out) hb); have NB148_149 := Aside0.mk ((by rw [hg]; exact Nat.ne_of_lt (bl BK148.out) : gb148 ≠ gb149)); have NB149_148 := Aside0.mk ((by rw [hg]; exact Nat.ne_of_gt (bl BK148.out) : gb149 ≠ gb148)); replace BK148 := Aside0.mk (blk_below (g := gb148) (o := .cells #[.int .i64 a0_0, .int .i64 a0_1, .int .i64 a0_2, .int .i64 a0_3, .int .i64 a0_4] 52 (0, 0)) (by exact bk BK148.out rfl) hb); clear hb hbox hg; have hnb14 := NB149_148.out; have hnc14 := NB148_149.out; obtain ⟨hcz15_0, hcz15_1, hcz15_2, hcz15_3, hfz15_0, hfz15_1, hfz15_2, hfz15_3⟩ := cs4 BK149.out; obtain ⟨hcz16_0, hcz16_1, hcz16_2, hcz16_3, hcz16_4, hfz16_0, hfz16_1, hfz16_2, hfz16_3, hfz16_4⟩ := cs5 BK148.out))
  go_ret
  exact ⟨by first | rfl | (simp [errW_none, errW_some] <;> rfl) | (simp [*, errW_none, errW_some] <;> rfl), by exact bw HB.out⟩
def footwayref03_sum.l0 : Nat → ByteArray → Int → Int → Option (Int)
 | 0, _, _, _ => none
 | k + 1, x0, x3, x4 => if x4 < (x0.size : Int) then (if 0 ≤ x4 then (footwayref03_sum.l0 k x0 (Int.tmod (wrap64 (x3 + (wrap64 (bt x0 x4)))) 256) (wrap64 (x4 + 1))) else (none)) else (some x3)
def footwayref03_sum.f (k : Nat) (a0 : ByteArray) : Option (Int) := footwayref03_sum.l0 k a0 0 0
theorem footwayref03_sum.mono_l : ∀ k, (∀ y0 y1 y2, LeO (footwayref03_sum.l0 k y0 y1 y2) (footwayref03_sum.l0 (k + 1) y0 y1 y2))
 | 0 => fun _ _ _ r h => by simp [footwayref03_sum.l0] at h
 | k + 1 => by
  have ih0 := footwayref03_sum.mono_l k
  ·intro y0 y1 y2
   unfold footwayref03_sum.l0
   repeat' first
   | (with_reducible exact ih0 _ _ _)
   | (with_reducible exact LeO.refl _)
   | (with_reducible exact LeO.none _)
   | (with_reducible refine LeO.ite ?_ ?_)
   | (with_reducible refine LeO.bind ?_ (fun _ => ?_))
   | exact ih0 _ _ _
   | exact LeO.none _
   | refine LeO.ite ?_ ?_
   | refine LeO.bind ?_ (fun _ => ?_)
theorem footwayref03_sum.mono : ∀ a0 k, LeO (footwayref03_sum.f k a0) (footwayref03_sum.f (k + 1) a0) := by
 intro a0 k
 have ih0 := footwayref03_sum.mono_l k
 unfold footwayref03_sum.f
 repeat' first
   | (with_reducible exact ih0 _ _ _)
   | (with_reducible exact LeO.refl _)
   | (with_reducible exact LeO.none _)
   | (with_reducible refine LeO.ite ?_ ?_)
   | (with_reducible refine LeO.bind ?_ (fun _ => ?_))
   | exact ih0 _ _ _
   | exact LeO.none _
   | refine LeO.ite ?_ ?_
   | refine LeO.bind ?_ (fun _ => ?_)
set_option maxHeartbeats 8000000 in
set_option maxRecDepth 100000 in
theorem footwayref03_sum.calls (k : Nat) (a0 : ByteArray) (r : Int) (w : World) (h : footwayref03_sum.f k a0 = some r) :
  Calls Tq.prog 80 #[.string a0] w fun e w' => e = .returned (.int .i64 r) ∧ Drawn0 w w' := by
 have H : (footwayref03_sum.l0 k a0 0 0) = some r := h
 clear h
 have H' := Aside0.mk H
 clear H
 go_enter Tq.func80, Try.ntmps80
 go_wp2
 go_loopg [3, 4] k (fun kq v3 v4 w' => ∃ (x3_1 : Int) (x4_1 : Int), v3 = .int .i64 x3_1 ∧ v4 = .int .i64 x4_1 ∧ Aside0 (footwayref03_sum.l0 kq a0 x3_1 x4_1 = some r) ∧ Aside0 (kq ≤ k) ∧ Drawn0 w w')
 case atStart => exact ⟨(0), (0), (by first | rfl | (simp; done) | (simp [*]; done)), (by first | rfl | (simp; done) | (simp [*]; done)), H', ⟨Nat.le_refl _⟩, by repeat (first | exact Drawn0.refl _ | apply Drawn0.step)⟩
 case round =>
  clear H'
  obtain ⟨x3_1, x4_1, rfl, rfl, HA, HK1, ⟨m1, rfl⟩⟩ := hrel
  cases gk with
  | zero => exact absurd HA.out (by simp [footwayref03_sum.l0])
  | succ k1 =>
   have H := HA.out
   clear HA
   simp only [footwayref03_sum.l0] at H
   by_cases c2 : x4_1 < (a0.size : Int)
   ·rw [if_pos c2] at H
    have c2b0 : decide (x4_1 < (a0.size : Int)) = true := decide_eq_true c2
    clear c2
    by_cases c3 : 0 ≤ x4_1
    ·rw [if_pos c3] at H
     have c3b0 : decide (0 ≤ x4_1) = true := decide_eq_true c3
     clear c3
     have H' := Aside0.mk H
     clear H
     have p4 : 0 ≤ (x4_1 : Int) := of_decide_eq_true (by first | (with_reducible assumption) | assumption)
     have q4 : x4_1 < (a0.size : Int) := of_decide_eq_true (by first | (with_reducible assumption) | assumption)
     have hx4 := bt_at a0 x4_1
     replace p4 := eq_true p4
     replace q4 := eq_true q4
     go_wp2
     go_roundg k1
     case measure => have := HK1.out; omega
     case rel => exact ⟨(Int.tmod (wrap64 (x3_1 + (wrap64 (bt a0 x4_1)))) 256), (wrap64 (x4_1 + 1)), (by first | rfl | (simp; done) | (simp [*]; done)), (by first | rfl | (simp; done) | (simp [*]; done)), H', ⟨by have := HK1.out; omega⟩, by repeat (first | exact Drawn0.refl _ | apply Drawn0.step)⟩
    ·rw [if_neg c3] at H
     exact absurd H (by simp)
   ·rw [if_neg c2] at H
    have c2b0 : decide (x4_1 < (a0.size : Int)) = false := decide_eq_false c2
    clear c2
    obtain rfl := Option.some.inj H
    go_wp2
    go_ret
    exact ⟨by first | rfl | (simp; done) | (simp [*]; done), by repeat (first | exact Drawn0.refl _ | apply Drawn0.step)⟩
def footwayref03_read.l0 : Nat → ByteArray → Int → Int → Option (Int)
 | 0, _, _, _ => none
 | k + 1, x0, x3, x4 => if x4 < (x0.size : Int) then (if 0 ≤ x4 then (footwayref03_read.l0 k x0 (wrap64 ((wrap64 (256 * x3)) + (wrap64 (bt x0 x4)))) (wrap64 (x4 + 1))) else (none)) else (some x3)
def footwayref03_read.f (k : Nat) (a0 : ByteArray) : Option (Int) := footwayref03_read.l0 k a0 0 0
theorem footwayref03_read.mono_l : ∀ k, (∀ y0 y1 y2, LeO (footwayref03_read.l0 k y0 y1 y2) (footwayref03_read.l0 (k + 1) y0 y1 y2))
 | 0 => fun _ _ _ r h => by simp [footwayref03_read.l0] at h
 | k + 1 => by
  have ih0 := footwayref03_read.mono_l k
  ·intro y0 y1 y2
   unfold footwayref03_read.l0
   repeat' first
   | (with_reducible exact ih0 _ _ _)
   | (with_reducible exact LeO.refl _)
   | (with_reducible exact LeO.none _)
   | (with_reducible refine LeO.ite ?_ ?_)
   | (with_reducible refine LeO.bind ?_ (fun _ => ?_))
   | exact ih0 _ _ _
   | exact LeO.none _
   | refine LeO.ite ?_ ?_
   | refine LeO.bind ?_ (fun _ => ?_)
theorem footwayref03_read.mono : ∀ a0 k, LeO (footwayref03_read.f k a0) (footwayref03_read.f (k + 1) a0) := by
 intro a0 k
 have ih0 := footwayref03_read.mono_l k
 unfold footwayref03_read.f
 repeat' first
   | (with_reducible exact ih0 _ _ _)
   | (with_reducible exact LeO.refl _)
   | (with_reducible exact LeO.none _)
   | (with_reducible refine LeO.ite ?_ ?_)
   | (with_reducible refine LeO.bind ?_ (fun _ => ?_))
   | exact ih0 _ _ _
   | exact LeO.none _
   | refine LeO.ite ?_ ?_
   | refine LeO.bind ?_ (fun _ => ?_)
set_option maxHeartbeats 8000000 in
set_option maxRecDepth 100000 in
theorem footwayref03_read.calls (k : Nat) (a0 : ByteArray) (r : Int) (w : World) (h : footwayref03_read.f k a0 = some r) :
  Calls Tq.prog 81 #[.string a0] w fun e w' => e = .returned (.int .i64 r) ∧ Drawn0 w w' := by
 have H : (footwayref03_read.l0 k a0 0 0) = some r := h
 clear h
 have H' := Aside0.mk H
 clear H
 go_enter Tq.func81, Try.ntmps81
 go_wp2
 go_loopg [3, 4] k (fun kq v3 v4 w' => ∃ (x3_1 : Int) (x4_1 : Int), v3 = .int .i64 x3_1 ∧ v4 = .int .i64 x4_1 ∧ Aside0 (footwayref03_read.l0 kq a0 x3_1 x4_1 = some r) ∧ Aside0 (kq ≤ k) ∧ Drawn0 w w')
 case atStart => exact ⟨(0), (0), (by first | rfl | (simp; done) | (simp [*]; done)), (by first | rfl | (simp; done) | (simp [*]; done)), H', ⟨Nat.le_refl _⟩, by repeat (first | exact Drawn0.refl _ | apply Drawn0.step)⟩
 case round =>
  clear H'
  obtain ⟨x3_1, x4_1, rfl, rfl, HA, HK1, ⟨m1, rfl⟩⟩ := hrel
  cases gk with
  | zero => exact absurd HA.out (by simp [footwayref03_read.l0])
  | succ k1 =>
   have H := HA.out
   clear HA
   simp only [footwayref03_read.l0] at H
   by_cases c2 : x4_1 < (a0.size : Int)
   ·rw [if_pos c2] at H
    have c2b0 : decide (x4_1 < (a0.size : Int)) = true := decide_eq_true c2
    clear c2
    by_cases c3 : 0 ≤ x4_1
    ·rw [if_pos c3] at H
     have c3b0 : decide (0 ≤ x4_1) = true := decide_eq_true c3
     clear c3
     have H' := Aside0.mk H
     clear H
     have p4 : 0 ≤ (x4_1 : Int) := of_decide_eq_true (by first | (with_reducible assumption) | assumption)
     have q4 : x4_1 < (a0.size : Int) := of_decide_eq_true (by first | (with_reducible assumption) | assumption)
     have hx4 := bt_at a0 x4_1
     replace p4 := eq_true p4
     replace q4 := eq_true q4
     go_wp2
     go_roundg k1
     case measure => have := HK1.out; omega
     case rel => exact ⟨(wrap64 ((wrap64 (256 * x3_1)) + (wrap64 (bt a0 x4_1)))), (wrap64 (x4_1 + 1)), (by first | rfl | (simp; done) | (simp [*]; done)), (by first | rfl | (simp; done) | (simp [*]; done)), H', ⟨by have := HK1.out; omega⟩, by repeat (first | exact Drawn0.refl _ | apply Drawn0.step)⟩
    ·rw [if_neg c3] at H
     exact absurd H (by simp)
   ·rw [if_neg c2] at H
    have c2b0 : decide (x4_1 < (a0.size : Int)) = false := decide_eq_false c2
    clear c2
    obtain rfl := Option.some.inj H
    go_wp2
    go_ret
    exact ⟨by first | rfl | (simp; done) | (simp [*]; done), by repeat (first | exact Drawn0.refl _ | apply Drawn0.step)⟩
end Go.Proofs.Ytnikfjfcbpeieaa.PBp
end
