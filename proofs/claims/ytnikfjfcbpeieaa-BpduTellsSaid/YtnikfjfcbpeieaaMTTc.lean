/- Frames as plain numbers: what Print and Parse answer, and that one undoes the other. -/
/- Bpdu's Print and Parse as plain numbers: what they answer, and that one undoes the other. -/
/- The reference of mac and frame as plain numbers; classes by bits. -/
import Derived.Test.YtnikfjfcbpeieaaMTQq
import Derived.Test.YtnikfjfcbpeieaaProg
import Derived.Below
import Derived.Deep.Draws
import Derived.Deep.AppendLies
import Derived.Maps.AppendAt
import Derived.OwnWalk
import Derived.Laws.BytesArg
import Derived.Laws.MakeOwn
import Derived.Laws.OwnMore
import Derived.Deep.OwnRows
import Derived.Tactics
import Derived.Lib.ConvBytes
import Derived.Laws.Slices
import Derived.WalkKit
import Derived.KernelRfl
import Derived.RowKit3
import Derived.Deep.LoopGhost
import Derived.Deep.QuietTactic
import Derived.BigQuiet
import Derived.WideLaws
import Derived.Deep.DeepCutAuto
import Derived.Deep.CutBlock
import Derived.Deep.RegionHeld3
import Derived.Laws.Rows
import Derived.Lib.AppendStr
import Derived.ArgAppend
import Derived.Laws.IdiomCopy
import Derived.OrdersHeld
import Derived.Laws.BitsLemmas
import Derived.RowKit
import Derived.Test.YtnikfjfcbpeieaaMTW
import Derived.Test.YtnikfjfcbpeieaaMTTa
import Derived.Test.YtnikfjfcbpeieaaMTTe
import Derived.Test.YtnikfjfcbpeieaaMTTf
import Derived.Test.YtnikfjfcbpeieaaMTTBp
import Derived.Test.YtnikfjfcbpeieaaMTTb
section
namespace Go.Proofs.Ytnikfjfcbpeieaa.PBp
open Go.RowKit Go.Proofs.YtnikfjfcbpeieaaW.PrintWords Go.Proofs.YtnikfjfcbpeieaaW.PrintLast Go.Proofs.YtnikfjfcbpeieaaW.PrintMore
attribute [local go_sem] max2_int min2_int max_two min_two max_three min_three max_four min_four   -- for this text's walks alone
set_option linter.unusedVariables false
set_option linter.unusedSimpArgs false
def errW : Option Int → Value
 | none => .nilIface
 | some c => .iface 0 (.int .i64 c)
theorem errW_none : errW none = .nilIface := rfl
theorem errW_some (c : Int) : errW (some c) = .iface 0 (.int .i64 c) := rfl
theorem info5 : (Tq.prog.info? 5).map (fun i => (i.zero, i.size, i.bytes)) = some (some (.int .u8 0), 1, 1) := by kernel_rfl
end Go.Proofs.Ytnikfjfcbpeieaa.PBp
end
section
namespace Go.Proofs.Ytnikfjfcbpeieaa.PBp
open Go.RowKit Go.Proofs.Ytnikfjfcbpeieaa.PBq Go.Proofs.Ytnikfjfcbpeieaa.EFrame Go.Proofs.Ytnikfjfcbpeieaa.PBa Go.Proofs.Ytnikfjfcbpeieaa.PBb Go.Proofs.Ytnikfjfcbpeieaa.PFr Go.Proofs.Ytnikfjfcbpeieaa.EBp Go.Proofs.YtnikfjfcbpeieaaW.PrintWords Go.Proofs.YtnikfjfcbpeieaaW.PrintLast Go.Proofs.YtnikfjfcbpeieaaW.PrintMore
attribute [local go_sem] max2_int min2_int max_two min_two max_three min_three max_four min_four   -- for this text's walks alone
set_option linter.unusedVariables false
set_option linter.unusedSimpArgs false
def bpdu_Print.f (a0_0 : Int) (a0_1 : Int) (a0_2 : Int) (a0_3 : Int) (a0_4 : Int) : Option (ByteArray × Int) := (bpdu_Right.f a0_0 a0_1 a0_2 a0_3 a0_4).bind fun t102 => (if t102 = true then ((some (([0, (a0_0 / 256) % 256, (a0_0) % 256, (a0_1 / 16777216) % 256, (a0_1 / 65536) % 256, (a0_1 / 256) % 256, (a0_1) % 256, (a0_2 / 256) % 256, (a0_2) % 256, (a0_3) % 256, (a0_4) % 256] : List Int) : List Int)).bind fun y104 => ((bpdu_sum.f y104).bind fun t107 => (if y104.length < 140737488355328 then (some (strOfNums (y104 ++ [(-t107) % 256]), 0)) else (none)))) else (some ((⟨#[]⟩ : ByteArray), 1)))
set_option maxHeartbeats 8000000 in
set_option maxRecDepth 100000 in
theorem bpdu_Print.calls (a0_0 : Int) (a0_1 : Int) (a0_2 : Int) (a0_3 : Int) (a0_4 : Int) (r1 : ByteArray) (r2 : Int) (w : World) (h : bpdu_Print.f a0_0 a0_1 a0_2 a0_3 a0_4 = some (r1, r2)) :
  Calls Tq.prog 39 #[.agg #[.int .i64 a0_0, .int .i64 a0_1, .int .i64 a0_2, .int .i64 a0_3, .int .i64 a0_4]] w fun e w' => e = .returned (.tuple #[.string r1, .int .i64 r2]) ∧ Below w.heap.size w w' := by
 have hu52 := Tq.underlying52
 have hu50 := Tq.underlying50
 have HB := Aside0.mk (Below.refl w.heap.size w)
 have H := h
 unfold bpdu_Print.f at H
 clear h
 replace H := Option.bind_eq_some_iff.mp H
 obtain ⟨t102, A20, H⟩ := H
 try dsimp only at H
 have A2 := Aside0.mk A20
 clear A20
 by_cases c3 : t102 = true
 ·subst c3
  rw [if_pos rfl] at H
  obtain ⟨y104, hy104⟩ : ∃ y_ : List Int, y_ = (([0, (a0_0 / 256) % 256, (a0_0) % 256, (a0_1 / 16777216) % 256, (a0_1 / 65536) % 256, (a0_1 / 256) % 256, (a0_1) % 256, (a0_2 / 256) % 256, (a0_2) % 256, (a0_3) % 256, (a0_4) % 256] : List Int)) := ⟨_, rfl⟩
  replace H : ((bpdu_sum.f y104).bind fun t107 => (if y104.length < 140737488355328 then (some (strOfNums (y104 ++ [(-t107) % 256]), 0)) else (none))) = some (r1, r2) := by first | (rw [hy104]; with_reducible exact H) | (have H2_ := (Option.bind_some _ _).symm.trans H; rw [hy104]; with_reducible exact H2_) | (have H2_ := (Option.bind_some _ _).symm.trans H; with_reducible exact H2_) | with_reducible exact H | (rw [hy104]; exact H) | exact H
  have Ny104 := Aside0.mk hy104
  clear hy104
  replace H := Option.bind_eq_some_iff.mp H
  obtain ⟨t107, A40, H⟩ := H
  try dsimp only at H
  have A4 := Aside0.mk A40
  clear A40
  by_cases c5 : y104.length < 140737488355328
  ·rw [if_pos c5] at H
   have LMc5 := Aside0.mk c5
   clear c5
   obtain ⟨y108, hy108⟩ : ∃ y_ : List Int, y_ = (y104 ++ [(-t107) % 256]) := ⟨_, rfl⟩
   replace H : (some (strOfNums y108, 0)) = some (r1, r2) := by first | (rw [hy108]; with_reducible exact H) | (have H2_ := (Option.bind_some _ _).symm.trans H; rw [hy108]; with_reducible exact H2_) | (have H2_ := (Option.bind_some _ _).symm.trans H; with_reducible exact H2_) | with_reducible exact H | (rw [hy108]; exact H) | exact H
   have Ny108 := Aside0.mk hy108
   clear hy108
   simp only [Option.some.injEq, Prod.mk.injEq] at H
   obtain ⟨rfl, rfl⟩ := H
   go_enter Tq.func39, Try.ntmps39
   go_wp2_with (first | ((with_reducible refine gate_dst (N := 1) rfl ?_); refine box_event ?hg (N := 1) ?hd (cs := #[.int .i64 a0_0, .int .i64 a0_1, .int .i64 a0_2, .int .i64 a0_3, .int .i64 a0_4]) (t := 52) ?hr ?_; (case hd => rfl); (case hg => rfl); (case hr => first | (go_simp; done) | (go_simp; rfl)); intro gb101 hg w6 hbox hb; have BK101 := Aside0.mk (hbox); have GW101 := Aside0.mk ((by rw [hg]; exact (below_size (by exact bw HB.out)) : w.heap.size ≤ gb101)); have GE101 := Aside0.mk ((by rw [hg]; exact (below_size (by exact bw HB.out)) : w.heap.size ≤ gb101)); replace HB := Aside0.mk (below_step (by exact bw HB.out) hb); clear hb hbox hg; obtain ⟨hcz7_0, hcz7_1, hcz7_2, hcz7_3, hcz7_4, hfz7_0, hfz7_1, hfz7_2, hfz7_3, hfz7_4⟩ := cs5 BK101.out) | ((with_reducible refine gate_callee (f := 58) rfl ?_); refine goesL_ (some 7) rfl rfl Tq.func58 (by kernel_rfl) rfl #[.agg #[.int .i64 a0_0, .int .i64 a0_1, .int .i64 a0_2, .int .i64 a0_3, .int .i64 a0_4]] rfl (by (try simp only [List.map_toArray, List.map_cons, List.map_nil]); first | done | rfl | (simp only [List.length_drop, List.length_take]; rfl)) ?_; (with_reducible refine (bpdu_Right.calls a0_0 a0_1 a0_2 a0_3 a0_4 true _ A2.out).mono ?_); rintro e w8 ⟨rfl, hb⟩; refine ⟨_, rfl, ?_⟩; replace BK101 := Aside0.mk (blk_below (g := gb101) (o := .cells #[.int .i64 a0_0, .int .i64 a0_1, .int .i64 a0_2, .int .i64 a0_3, .int .i64 a0_4] 52 (0, 0)) (by exact bk BK101.out rfl) hb); replace HB := Aside0.mk (below_step (by exact bw HB.out) hb); (try clear hb); (try clear hb2); (try clear hk); (try clear hi); obtain ⟨hcz9_0, hcz9_1, hcz9_2, hcz9_3, hcz9_4, hfz9_0, hfz9_1, hfz9_2, hfz9_3, hfz9_4⟩ := cs5 BK101.out) | ((with_reducible refine gate_dst (N := 4) rfl ?_); refine box_event ?hg (N := 4) ?hd (cs := #[.int .i64 0, .int .i64 0, .int .i64 0, .int .i64 0]) (t := 50) ?hr ?_; (case hd => rfl); (case hg => rfl); (case hr => first | (go_simp; done) | (go_simp; rfl)); intro gb103 hg w10 hbox hb; have BK103 := Aside0.mk (hbox); have GW103 := Aside0.mk ((by rw [hg]; exact (below_size (by exact bw HB.out)) : w.heap.size ≤ gb103)); have GE103 := Aside0.mk ((by rw [hg]; exact (below_size (by exact bw HB.out)) : w.heap.size ≤ gb103)); replace HB := Aside0.mk (below_step (by exact bw HB.out) hb); have NB101_103 := Aside0.mk ((by rw [hg]; exact Nat.ne_of_lt (bl BK101.out) : gb101 ≠ gb103)); have NB103_101 := Aside0.mk ((by rw [hg]; exact Nat.ne_of_gt (bl BK101.out) : gb103 ≠ gb101)); replace BK101 := Aside0.mk (blk_below (g := gb101) (o := .cells #[.int .i64 a0_0, .int .i64 a0_1, .int .i64 a0_2, .int .i64 a0_3, .int .i64 a0_4] 52 (0, 0)) (by exact bk BK101.out rfl) hb); clear hb hbox hg; have hnb11 := NB103_101.out; have hnc11 := NB101_103.out; obtain ⟨hcz12_0, hcz12_1, hcz12_2, hcz12_3, hfz12_0, hfz12_1, hfz12_2, hfz12_3⟩ := cs4 BK103.out; obtain ⟨hcz13_0, hcz13_1, hcz13_2, hcz13_3, hcz13_4, hfz13_0, hfz13_1, hfz13_2, hfz13_3, hfz13_4⟩ := cs5 BK101.out) | ((with_reducible refine gate_dst (N := 46) rfl ?_); refine Kd.R_lit (Kd.int .u8) _ 5 ?hg (N := 46) ?hd (xs := ([0, (a0_0 / 256) % 256, (a0_0) % 256, (a0_1 / 16777216) % 256, (a0_1 / 65536) % 256, (a0_1 / 256) % 256, (a0_1) % 256, (a0_2 / 256) % 256, (a0_2) % 256, (a0_3) % 256, (a0_4) % 256] : List Int)) (inner := [.int .u8 0, .int .u8 ((a0_0 / 256) % 256), .int .u8 ((a0_0) % 256), .int .u8 ((a0_1 / 16777216) % 256), .int .u8 ((a0_1 / 65536) % 256), .int .u8 ((a0_1 / 256) % 256), .int .u8 ((a0_1) % 256), .int .u8 ((a0_2 / 256) % 256), .int .u8 ((a0_2) % 256), .int .u8 ((a0_3) % 256), .int .u8 ((a0_4) % 256)]) (ok := fun _ => True) (okp := fun _ => True) ?hr ?hp (fun _ hk => hk) trivial (Below.refl _ _) (Nat.le_refl _) (by simp) ?_; (case hd => rfl); (case hg => rfl); (case hr => first | (go_simp; done) | (go_simp; rfl)); (case hp => exact (Reps.one (show Kd.M (Kd.int .u8) _ _ _ 0 [.int .u8 0] from rfl) (Reps.one (show Kd.M (Kd.int .u8) _ _ _ ((a0_0 / 256) % 256) [.int .u8 ((a0_0 / 256) % 256)] from rfl) (Reps.one (show Kd.M (Kd.int .u8) _ _ _ ((a0_0) % 256) [.int .u8 ((a0_0) % 256)] from rfl) (Reps.one (show Kd.M (Kd.int .u8) _ _ _ ((a0_1 / 16777216) % 256) [.int .u8 ((a0_1 / 16777216) % 256)] from rfl) (Reps.one (show Kd.M (Kd.int .u8) _ _ _ ((a0_1 / 65536) % 256) [.int .u8 ((a0_1 / 65536) % 256)] from rfl) (Reps.one (show Kd.M (Kd.int .u8) _ _ _ ((a0_1 / 256) % 256) [.int .u8 ((a0_1 / 256) % 256)] from rfl) (Reps.one (show Kd.M (Kd.int .u8) _ _ _ ((a0_1) % 256) [.int .u8 ((a0_1) % 256)] from rfl) (Reps.one (show Kd.M (Kd.int .u8) _ _ _ ((a0_2 / 256) % 256) [.int .u8 ((a0_2 / 256) % 256)] from rfl) (Reps.one (show Kd.M (Kd.int .u8) _ _ _ ((a0_2) % 256) [.int .u8 ((a0_2) % 256)] from rfl) (Reps.one (show Kd.M (Kd.int .u8) _ _ _ ((a0_3) % 256) [.int .u8 ((a0_3) % 256)] from rfl) (Reps.one (show Kd.M (Kd.int .u8) _ _ _ ((a0_4) % 256) [.int .u8 ((a0_4) % 256)] from rfl) (Reps.none _ _))))))))))))); intro v105 w14 ho15 hb hg_ hnew_; clear hg_ hnew_; (first | rw [← Ny104.out] at ho15 | (simp only [Int.reduceToNat] at ho15; rw [← Ny104.out] at ho15)); have HO106 := Aside0.mk (Kd.R_lower ho15 (below_size (by exact bw HB.out))); replace BK101 := Aside0.mk (blk_below (g := gb101) (o := .cells #[.int .i64 a0_0, .int .i64 a0_1, .int .i64 a0_2, .int .i64 a0_3, .int .i64 a0_4] 52 (0, 0)) (by exact bk BK101.out rfl) hb); replace BK103 := Aside0.mk (blk_below (g := gb103) (o := .cells #[.int .i64 a0_0, .int .i64 a0_1, .int .i64 a0_2, .int .i64 a0_3] 50 (0, 0)) (by exact bk BK103.out rfl) hb); replace HB := Aside0.mk (below_step (by exact bw HB.out) hb); clear hb ho15; obtain ⟨Ao16, co16, eo16⟩ := Kd.R_slice HO106.out; subst eo16) | ((with_reducible refine gate_callee (f := 68) rfl ?_); refine goesL_ (some 49) rfl rfl Tq.func68 (by kernel_rfl) rfl #[.slice Ao16 y104.length co16] rfl (by (try simp only [List.map_toArray, List.map_cons, List.map_nil]); first | done | rfl | (simp only [List.length_drop, List.length_take]; rfl)) ?_; (with_reducible refine (bpdu_sum.calls _ _ y104 t107 _ ?side1 ?side2 A4.out).mono ?_); (case side1 => repeat (first | exact (Kd.R_reads' HO106.out).2.2 | (with_reducible refine Kd.C_alloc ?_ _) | (with_reducible refine Kd.C_drewN ?_ _) | (with_reducible refine Kd.C_drew ?_))); (case side2 => exact (Kd.R_reads' HO106.out).2.1); rintro e w17 ⟨rfl, hb⟩; refine ⟨_, rfl, ?_⟩; replace HO106 := Aside0.mk (Kd.R_below (by (with_reducible repeat (first | apply Kd.R_alloc | apply Kd.R_drewN | apply Kd.R_drew)); exact HO106.out) hb); replace BK101 := Aside0.mk (blk_below (g := gb101) (o := .cells #[.int .i64 a0_0, .int .i64 a0_1, .int .i64 a0_2, .int .i64 a0_3, .int .i64 a0_4] 52 (0, 0)) (by exact bk BK101.out rfl) hb); replace BK103 := Aside0.mk (blk_below (g := gb103) (o := .cells #[.int .i64 a0_0, .int .i64 a0_1, .int .i64 a0_2, .int .i64 a0_3] 50 (0, 0)) (by exact bk BK103.out rfl) hb); replace HB := Aside0.mk (below_step (by exact bw HB.out) hb); (try clear hb); (try clear hb2); (try clear hk); (try clear hi)) | ((with_reducible refine gate_builtin (b := .append) (xs := #[.tmp 47, .tmp 51]) rfl ?_); at_builtin; refine Kd.R_append (Kd.int .u8) (w0 := w) w.heap.size rfl (.tmp 47) (.tmp 51) 35 5 (.int .u8 0) 1 rfl Tq.underlying35 info5 rfl (by decide) (by omega) (.slice Ao16 y104.length co16) y104 ((-t107) % 256) [.int .u8 ((-t107) % 256)] (fun _ => True) (fun _ => False) rfl rfl ?aP (fun _ hk => hk.elim) ?aF ?aO ?aB ?aS ?aL ?_; (case aP => exact rfl); (case aB => exact (by exact bw HB.out)); (case aF => exact (fun _ _ => trivial)); (case aO => exact (by (with_reducible repeat (first | apply Kd.R_alloc | apply Kd.R_drewN | apply Kd.R_drew)); exact HO106.out)); (case aS => exact (below_size (by exact bw HB.out))); (case aL => have := LMc5.out; omega); intro v109 w18 ho hb hg hat; rw [← Ny108.out] at ho; have n0_ := Aside0.mk (blk_grown (g := gb101) (o := .cells #[.int .i64 a0_0, .int .i64 a0_1, .int .i64 a0_2, .int .i64 a0_3, .int .i64 a0_4] 52 (0, 0)) (by exact bk BK101.out rfl) hg (Kd.R_ne HO106.out BK101.out (by decide))); have n1_ := Aside0.mk (blk_grown (g := gb103) (o := .cells #[.int .i64 a0_0, .int .i64 a0_1, .int .i64 a0_2, .int .i64 a0_3] 50 (0, 0)) (by exact bk BK103.out rfl) hg (Kd.R_ne HO106.out BK103.out (by decide))); have n2_ := Aside0.mk (hb); have n3_ := Aside0.mk (ho); clear BK101; clear BK103; clear HB; clear HO106; have BK101 := n0_; have BK103 := n1_; have HB := n2_; have HO110 := n3_; clear n0_ n1_ n2_ n3_; clear ho hb hg hat; have hcv19 := own_string (P := Tq.prog) Tq.underlying35 Tq.underlying5 Tq.underlying9 (Kd.own_of_R HO110.out)))
   go_ret2
   exact ⟨by first | rfl | (simp [errW_none, errW_some] <;> rfl) | (simp [*, errW_none, errW_some] <;> rfl), by exact bw HB.out⟩
  ·rw [if_neg c5] at H
   exact absurd H (by simp)
 ·replace c3 := Bool.eq_false_iff.mpr c3
  subst c3
  rw [if_neg (show ¬ (false = true) by decide)] at H
  simp only [Option.some.injEq, Prod.mk.injEq] at H
  obtain ⟨rfl, rfl⟩ := H
  go_enter Tq.func39, Try.ntmps39
  go_wp2_with (first | ((with_reducible refine gate_dst (N := 1) rfl ?_); refine box_event ?hg (N := 1) ?hd (cs := #[.int .i64 a0_0, .int .i64 a0_1, .int .i64 a0_2, .int .i64 a0_3, .int .i64 a0_4]) (t := 52) ?hr ?_; (case hd => rfl); (case hg => rfl); (case hr => first | (go_simp; done) | (go_simp; rfl)); intro gb101 hg w20 hbox hb; have BK101 := Aside0.mk (hbox); have GW101 := Aside0.mk ((by rw [hg]; exact (below_size (by exact bw HB.out)) : w.heap.size ≤ gb101)); have GE101 := Aside0.mk ((by rw [hg]; exact (below_size (by exact bw HB.out)) : w.heap.size ≤ gb101)); replace HB := Aside0.mk (below_step (by exact bw HB.out) hb); clear hb hbox hg; obtain ⟨hcz21_0, hcz21_1, hcz21_2, hcz21_3, hcz21_4, hfz21_0, hfz21_1, hfz21_2, hfz21_3, hfz21_4⟩ := cs5 BK101.out) | ((with_reducible refine gate_callee (f := 58) rfl ?_); refine goesL_ (some 7) rfl rfl Tq.func58 (by kernel_rfl) rfl #[.agg #[.int .i64 a0_0, .int .i64 a0_1, .int .i64 a0_2, .int .i64 a0_3, .int .i64 a0_4]] rfl (by (try simp only [List.map_toArray, List.map_cons, List.map_nil]); first | done | rfl | (simp only [List.length_drop, List.length_take]; rfl)) ?_; (with_reducible refine (bpdu_Right.calls a0_0 a0_1 a0_2 a0_3 a0_4 false _ A2.out).mono ?_); rintro e w22 ⟨rfl, hb⟩; refine ⟨_, rfl, ?_⟩; replace BK101 := Aside0.mk (blk_below (g := gb101) (o := .cells #[.int .i64 a0_0, .int .i64 a0_1, .int .i64 a0_2, .int .i64 a0_3, .int .i64 a0_4] 52 (0, 0)) (by exact bk BK101.out rfl) hb); replace HB := Aside0.mk (below_step (by exact bw HB.out) hb); (try clear hb); (try clear hb2); (try clear hk); (try clear hi)))
  go_ret2
  exact ⟨by first | rfl | (simp [errW_none, errW_some] <;> rfl) | (simp [*, errW_none, errW_some] <;> rfl), by exact bw HB.out⟩
def footwaylaw03_alive.f  : Option (Bool) := (bpdu_Print.f 1 2 3 4 5).bind fun bt111 => (if bt111.2 = 0 then (some (bt111.1.toList == ([0, 0, 1, 0, 0, 0, 2, 0, 3, 4, 5, 241] : List UInt8))) else (some false))
set_option maxHeartbeats 8000000 in
set_option maxRecDepth 100000 in
theorem footwaylaw03_alive.calls  (r : Bool) (w : World) (h : footwaylaw03_alive.f  = some r) :
  Calls Tq.prog 40 #[] w fun e w' => e = .returned (.bool r) ∧ Below w.heap.size w w' := by
 have hu50 := Tq.underlying50
 have hu52 := Tq.underlying52
 have HB := Aside0.mk (Below.refl w.heap.size w)
 have H := h
 unfold footwaylaw03_alive.f at H
 clear h
 replace H := Option.bind_eq_some_iff.mp H
 obtain ⟨⟨t111, t112⟩, A10, H⟩ := H
 try dsimp only at H
 have A1 := Aside0.mk A10
 clear A10
 by_cases c2 : t112 = 0
 ·rw [if_pos c2] at H
  have c2b0 : (t112 == 0) = true := beq_iff_eq.mpr c2
  have c2b1 : (t112 != 0) = false := bne_eq_false_iff_eq.mpr c2
  clear c2
  obtain rfl := Option.some.inj H
  go_enter Tq.func40, Try.ntmps40
  go_wp2_with (first | ((with_reducible refine gate_callee (f := 39) rfl ?_); refine goesL_ (some 6) rfl rfl Tq.func39 (by kernel_rfl) rfl #[.agg #[.int .i64 1, .int .i64 2, .int .i64 3, .int .i64 4, .int .i64 5]] rfl (by (try simp only [List.map_toArray, List.map_cons, List.map_nil]); first | done | rfl | (simp only [List.length_drop, List.length_take]; rfl)) ?_; (with_reducible refine (bpdu_Print.calls 1 2 3 4 5 t111 t112 _ A1.out).mono ?_); rintro e w3 ⟨rfl, hb⟩; refine ⟨_, rfl, ?_⟩; replace HB := Aside0.mk (below_step (by exact bw HB.out) hb); (try clear hb); (try clear hb2); (try clear hk); (try clear hi)))
  go_ret
  exact ⟨by first | rfl | (simp [errW_none, errW_some] <;> rfl) | (simp [*, errW_none, errW_some] <;> rfl), by exact bw HB.out⟩
 ·rw [if_neg c2] at H
  have c2b0 : (t112 == 0) = false := beq_eq_false_iff_ne.mpr c2
  have c2b1 : (t112 != 0) = true := bne_iff_ne.mpr c2
  obtain rfl := Option.some.inj H
  go_enter Tq.func40, Try.ntmps40
  go_wp2_with (first | ((with_reducible refine gate_callee (f := 39) rfl ?_); refine goesL_ (some 6) rfl rfl Tq.func39 (by kernel_rfl) rfl #[.agg #[.int .i64 1, .int .i64 2, .int .i64 3, .int .i64 4, .int .i64 5]] rfl (by (try simp only [List.map_toArray, List.map_cons, List.map_nil]); first | done | rfl | (simp only [List.length_drop, List.length_take]; rfl)) ?_; (with_reducible refine (bpdu_Print.calls 1 2 3 4 5 t111 t112 _ A1.out).mono ?_); rintro e w4 ⟨rfl, hb⟩; refine ⟨_, rfl, ?_⟩; replace HB := Aside0.mk (below_step (by exact bw HB.out) hb); (try clear hb); (try clear hb2); (try clear hk); (try clear hi)))
  go_ret
  exact ⟨by first | rfl | (simp [errW_none, errW_some] <;> rfl) | (simp [*, errW_none, errW_some] <;> rfl), by exact bw HB.out⟩
end Go.Proofs.Ytnikfjfcbpeieaa.PBp
end
section
namespace Go.Proofs.Ytnikfjfcbpeieaa.QF
open Go.RowKit Go.Proofs.Ytnikfjfcbpeieaa.PBa Go.Proofs.Ytnikfjfcbpeieaa.EFrame Go.Proofs.Ytnikfjfcbpeieaa.EMac Go.Proofs.YtnikfjfcbpeieaaW.PrintWords Go.Proofs.YtnikfjfcbpeieaaW.PrintLast Go.Proofs.YtnikfjfcbpeieaaW.PrintMore
set_option linter.unusedVariables false
set_option linter.unusedSimpArgs false
theorem str_of_bytes (s : ByteArray) : strOfNums (bytesOf s) = s := by
 unfold bytesOf
 rw [Lib.Lz.strOfNums_map]
theorem bytes_inj {a b : ByteArray} (h : bytesOf a = bytesOf b) : a = b := by
 rw [← str_of_bytes a, ← str_of_bytes b, h]
theorem bytes_append (a b : ByteArray) : bytesOf (a ++ b) = bytesOf a ++ bytesOf b := by
 simp [bytesOf]
theorem bytes_of_str (l : List Int) (h : ∀ x ∈ l, 0 ≤ x ∧ x ≤ 255) : bytesOf (strOfNums l) = l := by
 have e : (strOfNums l).data.toList = l.map fun n => UInt8.ofNat n.toNat := by
  simp [strOfNums]
 unfold bytesOf
 rw [e, List.map_map]
 conv => rhs; rw [← List.map_id l]
 apply List.map_congr_left
 intro x hx
 have hb := h x hx
 simp only [Function.comp_apply, id_eq, UInt8.toNat_ofNat']
 omega
theorem bytes_ok (s : ByteArray) : ∀ x ∈ bytesOf s, 0 ≤ x ∧ x ≤ 255 := by
 intro x hx
 unfold bytesOf at hx
 obtain ⟨b, _, rfl⟩ := List.mem_map.1 hx
 have := b.toNat_lt
 omega
theorem bytes_extract (s : ByteArray) (i j : Nat) : bytesOf (s.extract i j) = ((bytesOf s).take j).drop i := by
 unfold bytesOf
 rw [← List.map_take, ← List.map_drop]
 congr 1
 simp [ByteArray.data_extract, List.extract_eq_take_drop, List.drop_take]
theorem bytes_len (s : ByteArray) : (bytesOf s).length = s.size := bytesOf_length s
theorem str_size (l : List Int) : (strOfNums l).size = l.length := by
 simp [strOfNums, ByteArray.size]
def P (d c t : Int) (n : ByteArray) : List Int := b6 d ++ (b6 c ++ ([t / 256 % 256, t % 256] ++ bytesOf n))
theorem class_total (c : Int) : ∃ k e, mac_Class.f c = some (k, e) := by
 unfold mac_Class.f mac_Right.f
 repeat' split
 all_goals simp
 all_goals repeat' split
 all_goals simp
theorem macRight_total (c : Int) : ∃ r, mac_Right.f c = some r := by
 unfold mac_Right.f
 split
 ·exact ⟨_, rfl⟩
 ·exact ⟨_, rfl⟩
theorem right_total (d c t : Int) (n : ByteArray) : ∃ r, frame_Right.f d c t n = some r := by
 unfold frame_Right.f
 obtain ⟨k, e, hk⟩ := class_total c
 obtain ⟨r, hr⟩ := macRight_total d
 rw [hk, hr]
 simp only [Option.bind_some]
 repeat' split
 all_goals exact ⟨_, rfl⟩
theorem class_right {c : Int} {k : Int} (h : mac_Class.f c = some (k, 0)) : 0 ≤ c ∧ c ≤ 281474976710655 := by
 unfold mac_Class.f mac_Right.f at h
 split at h
 ·rename_i h0
  refine ⟨h0, ?_⟩
  by_cases h1 : c ≤ 281474976710655
  ·exact h1
  ·simp [h1] at h
 ·simp at h
theorem right_iff (d c t : Int) (n : ByteArray) : frame_Right.f d c t n = some true ↔ mac_Class.f c = some (0, 0) ∧ (0 ≤ d ∧ d ≤ 281474976710655) ∧ (0 ≤ t ∧ t ≤ 65535) ∧ n.size ≤ 100 := by
 unfold frame_Right.f
 obtain ⟨k, e, hk⟩ := class_total c
 rw [hk]
 simp only [Option.bind_some]
 unfold mac_Right.f
 by_cases h1 : e = 0
 ·by_cases h2 : k = 0
  ·subst h1 h2
   by_cases h3 : d ≥ 0
   ·by_cases h4 : d ≤ 281474976710655
    ·by_cases h5 : t ≥ 0
     ·by_cases h6 : t ≤ 65535
      ·have h3' : 0 ≤ d := h3
       have h5' : 0 ≤ t := h5
       simp [h3, h4, h5, h6, h3', h5']
       omega
      ·simp [h3, h4, h5, h6]
     ·have : ¬ 0 ≤ t := h5
      simp [h3, h4, h5, this]
    ·simp [h3, h4]
   ·have : ¬ 0 ≤ d := h3
    simp [h3, this]
  ·simp [h1, h2]
 ·simp [h1]
theorem b6_ok {a : Int} (h0 : 0 ≤ a) (h1 : a ≤ 281474976710655) : ∀ x ∈ b6 a, 0 ≤ x ∧ x ≤ 255 := by
 intro x hx
 simp only [b6, List.mem_cons, List.not_mem_nil, or_false] at hx
 omega
theorem P_ok {d c t : Int} {n : ByteArray} (hd : 0 ≤ d ∧ d ≤ 281474976710655) (hc : 0 ≤ c ∧ c ≤ 281474976710655) : ∀ x ∈ P d c t n, 0 ≤ x ∧ x ≤ 255 := by
 intro x hx
 simp only [P, List.mem_append] at hx
 rcases hx with hx | hx | hx | hx
 ·exact b6_ok hd.1 hd.2 x hx
 ·exact b6_ok hc.1 hc.2 x hx
 ·simp at hx; omega
 ·exact bytes_ok n x hx
theorem num6_cons (s : ByteArray) (x0 x1 x2 x3 x4 x5 : Int) (pre rest : List Int) (h : bytesOf s = pre ++ x0 :: x1 :: x2 :: x3 :: x4 :: x5 :: rest) : num6 s pre.length = x0 * 1099511627776 + x1 * 4294967296 + x2 * 16777216 + x3 * 65536 + x4 * 256 + x5 := by
 have g : ∀ j : Nat, bt s ((pre.length : Int) + j) = (x0 :: x1 :: x2 :: x3 :: x4 :: x5 :: rest).getD j 0 := by
  intro j
  rw [← rd_bytesOf, h]
  unfold rd
  rw [show ((pre.length : Int) + j).toNat = pre.length + j from by omega]
  simp [List.getD_eq_getElem?_getD, List.getElem?_append_right]
 have g0 := g 0
 have g1 := g 1
 have g2 := g 2
 have g3 := g 3
 have g4 := g 4
 have g5 := g 5
 simp only [Int.natCast_zero, Int.add_zero, List.getD_cons_zero, List.getD_cons_succ] at g0 g1 g2 g3 g4 g5
 unfold num6
 rw [g0]
 erw [g1, g2, g3, g4, g5]
theorem tnum_cons (s : ByteArray) (x y : Int) (pre rest : List Int) (hp : pre.length = 12) (h : bytesOf s = pre ++ x :: y :: rest) : tnum s = x * 256 + y := by
 have g : ∀ j : Nat, bt s ((12 : Int) + j) = (x :: y :: rest).getD j 0 := by
  intro j
  rw [← rd_bytesOf, h]
  unfold rd
  rw [show ((12 : Int) + j).toNat = pre.length + j from by omega]
  simp [List.getD_eq_getElem?_getD, List.getElem?_append_right]
 have g0 := g 0
 have g1 := g 1
 simp only [Int.natCast_zero, Int.add_zero, List.getD_cons_zero, List.getD_cons_succ] at g0 g1
 unfold tnum
 rw [g0]
 erw [g1]
theorem P_len (d c t : Int) (n : ByteArray) : (P d c t n).length = 14 + n.size := by
 simp [P, b6, bytes_len]; omega
theorem b6_sum {a : Int} (h0 : 0 ≤ a) (h1 : a ≤ 281474976710655) : a / 1099511627776 * 1099511627776 + a / 4294967296 % 256 * 4294967296 + a / 16777216 % 256 * 16777216 + a / 65536 % 256 * 65536 + a / 256 % 256 * 256 + a % 256 = a := by
 omega
theorem Parse_P {d c t : Int} {n : ByteArray} (hr : frame_Right.f d c t n = some true) : frame_Parse.f (strOfNums (P d c t n)) = some (d, c, t, n, 0) := by
 obtain ⟨hc, hd, ht, hn⟩ := (right_iff _ _ _ _).1 hr
 have hc' := class_right hc
 have hb : bytesOf (strOfNums (P d c t n)) = P d c t n := bytes_of_str _ (P_ok hd hc')
 have hz : (strOfNums (P d c t n)).size = 14 + n.size := by rw [str_size, P_len]
 have e0 : num6 (strOfNums (P d c t n)) 0 = d := by
  have := num6_cons (strOfNums (P d c t n)) _ _ _ _ _ _ [] _ (by rw [hb]; rfl)
  simp only [List.length_nil, Int.natCast_zero] at this
  rw [this]; exact b6_sum hd.1 hd.2
 have e1 : num6 (strOfNums (P d c t n)) 6 = c := by
  have := num6_cons (strOfNums (P d c t n)) _ _ _ _ _ _ (b6 d) _ (by rw [hb]; rfl)
  have e : num6 (strOfNums (P d c t n)) 6 = _ := this
  rw [e]; exact b6_sum hc'.1 hc'.2
 have e2 : tnum (strOfNums (P d c t n)) = t := by
  have := tnum_cons (strOfNums (P d c t n)) _ _ (b6 d ++ b6 c) _ rfl (by rw [hb]; rfl)
  rw [this]; omega
 have e3 : (strOfNums (P d c t n)).extract 14 (strOfNums (P d c t n)).size = n := by
  apply bytes_inj
  rw [bytes_extract, hb, hz, ← P_len d c t n, List.take_length]
  rfl
 unfold frame_Parse.f
 rw [e0, e1, e2, e3, hr]
 rw [if_neg (by omega), if_neg (by omega)]
 rfl
theorem six {l : List Int} (h : 14 ≤ l.length) : ∃ x0 x1 x2 x3 x4 x5 y0 y1 y2 y3 y4 y5 t0 t1 rest, l = x0 :: x1 :: x2 :: x3 :: x4 :: x5 :: y0 :: y1 :: y2 :: y3 :: y4 :: y5 :: t0 :: t1 :: rest := by
 rcases l with _ | ⟨x0, _ | ⟨x1, _ | ⟨x2, _ | ⟨x3, _ | ⟨x4, _ | ⟨x5, _ | ⟨y0, _ | ⟨y1, _ | ⟨y2, _ | ⟨y3, _ | ⟨y4, _ | ⟨y5, _ | ⟨t0, _ | ⟨t1, rest⟩⟩⟩⟩⟩⟩⟩⟩⟩⟩⟩⟩⟩⟩ <;> first | (exact ⟨_, _, _, _, _, _, _, _, _, _, _, _, _, _, _, rfl⟩) | (simp at h)
theorem b6_num {x0 x1 x2 x3 x4 x5 : Int} (h0 : 0 ≤ x0 ∧ x0 ≤ 255) (h1 : 0 ≤ x1 ∧ x1 ≤ 255) (h2 : 0 ≤ x2 ∧ x2 ≤ 255) (h3 : 0 ≤ x3 ∧ x3 ≤ 255) (h4 : 0 ≤ x4 ∧ x4 ≤ 255) (h5 : 0 ≤ x5 ∧ x5 ≤ 255) :
  b6 (x0 * 1099511627776 + x1 * 4294967296 + x2 * 16777216 + x3 * 65536 + x4 * 256 + x5) = [x0, x1, x2, x3, x4, x5] := by
 unfold b6
 simp only [List.cons.injEq, and_true]
 refine ⟨by omega, by omega, by omega, by omega, by omega, by omega⟩
theorem P_parse (s : ByteArray) (h : 14 ≤ s.size) : strOfNums (P (num6 s 0) (num6 s 6) (tnum s) (s.extract 14 s.size)) = s := by
 obtain ⟨x0, x1, x2, x3, x4, x5, y0, y1, y2, y3, y4, y5, t0, t1, rest, hl⟩ := six (l := bytesOf s) (by rw [bytes_len]; exact h)
 have ok := bytes_ok s
 rw [hl] at ok
 have e0 : num6 s 0 = _ := num6_cons s x0 x1 x2 x3 x4 x5 [] _ hl
 have e1 : num6 s 6 = _ := num6_cons s y0 y1 y2 y3 y4 y5 [x0, x1, x2, x3, x4, x5] _ hl
 have e2 := tnum_cons s t0 t1 [x0, x1, x2, x3, x4, x5, y0, y1, y2, y3, y4, y5] _ rfl hl
 have g0 := b6_num (ok x0 (by simp)) (ok x1 (by simp)) (ok x2 (by simp)) (ok x3 (by simp)) (ok x4 (by simp)) (ok x5 (by simp))
 have g1 := b6_num (ok y0 (by simp)) (ok y1 (by simp)) (ok y2 (by simp)) (ok y3 (by simp)) (ok y4 (by simp)) (ok y5 (by simp))
 have k0 := ok t0 (by simp)
 have k1 := ok t1 (by simp)
 unfold P
 rw [e0, e1, e2, g0, g1, bytes_extract, ← bytes_len, List.take_length, hl]
 rw [show (t0 * 256 + t1) / 256 % 256 = t0 from by omega, show (t0 * 256 + t1) % 256 = t1 from by omega]
 conv => rhs; rw [← str_of_bytes s, hl]
 rfl
theorem Parse_cases (s : ByteArray) : (∃ d c t n, frame_Parse.f s = some (d, c, t, n, 0) ∧ frame_Right.f d c t n = some true ∧ strOfNums (P d c t n) = s ∧ 14 ≤ s.size ∧ s.size ≤ 114) ∨ ∃ e, e ≠ 0 ∧ frame_Parse.f s = some (0, 0, 0, ⟨#[]⟩, e) := by
 unfold frame_Parse.f
 by_cases h0 : s.size < 14
 ·rw [if_pos h0]; exact .inr ⟨7, by decide, rfl⟩
 ·rw [if_neg h0]
  by_cases h1 : 114 < s.size
  ·rw [if_pos h1]; exact .inr ⟨8, by decide, rfl⟩
  ·rw [if_neg h1]
   obtain ⟨r, hr⟩ := right_total (num6 s 0) (num6 s 6) (tnum s) (s.extract 14 s.size)
   rw [hr]
   cases r
   ·exact .inr ⟨10, by decide, rfl⟩
   ·exact .inl ⟨_, _, _, _, rfl, hr, P_parse s (by omega), by omega, by omega⟩
theorem joined_step (k : Nat) (x : List Int) (l : List ByteArray) (i j : Int) (hj : j = i + 1) (h0 : 0 ≤ i) (h1 : i < l.length) (hl : l.length ≤ 10) (hx : x.length ≤ 10000) (hs : (rdOf ByteArray.empty l i).size ≤ 10000) :
  frame_joined.l0 (k + 1) x l (l.length : Int) i = frame_joined.l0 k (x ++ bytesOf (rdOf ByteArray.empty l i)) l (l.length : Int) j := by
 subst hj
 rw [frame_joined.l0, if_pos h1, if_pos h0, if_pos h1, if_pos (by omega)]
 rw [show wrap64 (i + 1) = i + 1 from by unfold wrap64; omega]
theorem joined_eq (k : Nat) (a b c d : ByteArray) (ha : a.size ≤ 1000) (hb : b.size ≤ 1000) (hc : c.size ≤ 1000) (hd : d.size ≤ 1000) :
  frame_joined.f (k + 5) [a, b, c, d] = some (strOfNums (bytesOf a ++ (bytesOf b ++ (bytesOf c ++ bytesOf d)))) := by
 unfold frame_joined.f
 rw [joined_step (k + 4) _ _ 0 1 rfl (by decide) (by simp) (by simp) (by simp) (by exact Nat.le_trans ha (by decide))]
 rw [joined_step (k + 3) _ _ 1 2 rfl (by decide) (by simp) (by simp) (by simp [bytes_len, rdOf]; omega) (by exact Nat.le_trans hb (by decide))]
 rw [joined_step (k + 2) _ _ 2 3 rfl (by decide) (by simp) (by simp) (by simp [bytes_len, rdOf]; omega) (by exact Nat.le_trans hc (by decide))]
 rw [joined_step (k + 1) _ _ 3 4 rfl (by decide) (by simp) (by simp) (by simp [bytes_len, rdOf]; omega) (by exact Nat.le_trans hd (by decide))]
 rw [frame_joined.l0, if_neg (by simp)]
 simp [rdOf, List.append_assoc]
end Go.Proofs.Ytnikfjfcbpeieaa.QF
end
section
namespace Go.Proofs.Ytnikfjfcbpeieaa.QB
open Go.RowKit Go.Proofs.Ytnikfjfcbpeieaa.PBq Go.Proofs.Ytnikfjfcbpeieaa.PBp Go.Proofs.Ytnikfjfcbpeieaa.EBp Go.Proofs.Ytnikfjfcbpeieaa.EFrame Go.Proofs.Ytnikfjfcbpeieaa.QF Go.Proofs.YtnikfjfcbpeieaaW.PrintWords Go.Proofs.YtnikfjfcbpeieaaW.PrintLast Go.Proofs.YtnikfjfcbpeieaaW.PrintMore
set_option linter.unusedVariables false
set_option linter.unusedSimpArgs false
structure Rt (r c b p a : Int) : Prop where
 r : 0 ≤ r ∧ r ≤ 65535
 c : 0 ≤ c ∧ c ≤ 2147483647
 b : 0 ≤ b ∧ b ≤ 65535
 p : 0 ≤ p ∧ p ≤ 7
 a : 0 ≤ a ∧ a ≤ 255
instance (r c b p a : Int) : Decidable (Rt r c b p a) :=
 decidable_of_iff ((0 ≤ r ∧ r ≤ 65535) ∧ (0 ≤ c ∧ c ≤ 2147483647) ∧ (0 ≤ b ∧ b ≤ 65535) ∧ (0 ≤ p ∧ p ≤ 7) ∧ (0 ≤ a ∧ a ≤ 255)) ⟨fun ⟨h1, h2, h3, h4, h5⟩ => ⟨h1, h2, h3, h4, h5⟩, fun h => ⟨h.r, h.c, h.b, h.p, h.a⟩⟩
theorem in_eq (n m : Int) : bpdu_in.f n m = some (decide (0 ≤ n ∧ n ≤ m)) := by
 unfold bpdu_in.f
 by_cases h : n ≥ 0
 ·rw [if_pos h]
  have : 0 ≤ n := h
  simp [this]
 ·rw [if_neg h]
  have : ¬ 0 ≤ n := h
  simp [this]
theorem right_eq (r c b p a : Int) : bpdu_Right.f r c b p a = some (decide (Rt r c b p a)) := by
 unfold bpdu_Right.f
 simp only [in_eq, Option.bind_some]
 by_cases h1 : 0 ≤ r ∧ r ≤ 65535
 ·by_cases h2 : 0 ≤ b ∧ b ≤ 65535
  ·by_cases h3 : 0 ≤ c ∧ c ≤ 2147483647
   ·by_cases h4 : 0 ≤ p ∧ p ≤ 7
    ·by_cases h5 : 0 ≤ a ∧ a ≤ 255
     ·have : Rt r c b p a := ⟨h1, h3, h2, h4, h5⟩
      simp [h1, h2, h3, h4, h5, this]
     ·have : ¬ Rt r c b p a := fun h => h5 h.a
      simp [h1, h2, h3, h4, h5, this]
    ·have : ¬ Rt r c b p a := fun h => h4 h.p
     simp [h1, h2, h3, h4, this]
   ·have : ¬ Rt r c b p a := fun h => h3 h.c
    simp [h1, h2, h3, this]
  ·have : ¬ Rt r c b p a := fun h => h2 h.b
   simp [h1, h2, this]
 ·have : ¬ Rt r c b p a := fun h => h1 h.r
  simp [h1, this]
def L11 (r c b p a : Int) : List Int := [0, (r / 256) % 256, r % 256, (c / 16777216) % 256, (c / 65536) % 256, (c / 256) % 256, c % 256, (b / 256) % 256, b % 256, p % 256, a % 256]
def ck (r c b p a : Int) : Int := (-((L11 r c b p a).sum % 256)) % 256
def L12 (r c b p a : Int) : List Int := L11 r c b p a ++ [ck r c b p a]
theorem L11_ok (r c b p a : Int) : ∀ x ∈ L11 r c b p a, 0 ≤ x ∧ x < 256 := by
 intro x hx
 simp only [L11, List.mem_cons, List.not_mem_nil, or_false] at hx
 rcases hx with rfl | rfl | rfl | rfl | rfl | rfl | rfl | rfl | rfl | rfl | rfl <;> omega
theorem L12_ok (r c b p a : Int) : ∀ x ∈ L12 r c b p a, 0 ≤ x ∧ x < 256 := by
 intro x hx
 rcases List.mem_append.1 hx with hx | hx
 ·exact L11_ok r c b p a x hx
 ·simp only [List.mem_singleton] at hx
  subst hx
  unfold ck
  omega
theorem L12_le (r c b p a : Int) : ∀ x ∈ L12 r c b p a, 0 ≤ x ∧ x ≤ 255 := fun x hx => by have := L12_ok r c b p a x hx; omega
theorem L12_sum (r c b p a : Int) : (L12 r c b p a).sum % 256 = 0 := by
 unfold L12
 rw [List.sum_append]
 show ((L11 r c b p a).sum + (ck r c b p a + 0)) % 256 = 0
 unfold ck
 generalize (L11 r c b p a).sum = s
 omega
theorem L12_len (r c b p a : Int) : (L12 r c b p a).length = 12 := rfl
theorem Print_eq (r c b p a : Int) : bpdu_Print.f r c b p a = if Rt r c b p a then some (strOfNums (L12 r c b p a), 0) else some (⟨#[]⟩, 1) := by
 unfold bpdu_Print.f
 rw [right_eq]
 simp only [Option.bind_some]
 by_cases h : Rt r c b p a
 ·have hs : bpdu_sum.f (L11 r c b p a) = some ((L11 r c b p a).sum % 256) := by
   unfold bpdu_sum.f
   rw [if_pos ⟨L11_ok r c b p a, by show (11 : Nat) ≤ 1000000000; omega⟩]
  rw [if_pos h, if_pos (decide_eq_true h)]
  show (bpdu_sum.f (L11 r c b p a)).bind _ = _
  rw [hs]
  simp only [Option.bind_some]
  split
  ·rfl
  ·rename_i hn
   exact absurd (show (11 : Nat) < 140737488355328 by omega) hn
 ·rw [if_neg h, if_neg (by simp [h])]
theorem bt_list (s : ByteArray) (i : Nat) : bt s i = (bytesOf s).getD i 0 := by
 rw [← rd_bytesOf]
 unfold rd
 simp
theorem nums_eq (s : ByteArray) (h : s.size = 12) : EFrame.nums s 0 12 = bytesOf s := by
 unfold EFrame.nums bytesOf
 rw [List.drop_zero, List.take_of_length_le (by simp [h])]
def PL (x0 x1 x2 x3 x4 x5 x6 x7 x8 x9 x10 x11 : Int) : Int × Int × Int × Int × Int × Int :=
 if (x0 + (x1 + (x2 + (x3 + (x4 + (x5 + (x6 + (x7 + (x8 + (x9 + (x10 + (x11 + 0)))))))))))) % 256 = 0 then
  (if x0 = 0 ∧ Rt (x1 * 256 + x2) (x3 * 16777216 + x4 * 65536 + x5 * 256 + x6) (x7 * 256 + x8) x9 x10 then (x1 * 256 + x2, x3 * 16777216 + x4 * 65536 + x5 * 256 + x6, x7 * 256 + x8, x9, x10, 0) else (0, 0, 0, 0, 0, 10))
 else (0, 0, 0, 0, 0, 9)
theorem Parse_list (s : ByteArray) (x0 x1 x2 x3 x4 x5 x6 x7 x8 x9 x10 x11 : Int) (h : bytesOf s = [x0, x1, x2, x3, x4, x5, x6, x7, x8, x9, x10, x11]) : bpdu_Parse.f s = some (PL x0 x1 x2 x3 x4 x5 x6 x7 x8 x9 x10 x11) := by
 have hz : s.size = 12 := by rw [← bytes_len, h]; rfl
 have b : ∀ i : Nat, bt s i = [x0, x1, x2, x3, x4, x5, x6, x7, x8, x9, x10, x11].getD i 0 := fun i => by rw [bt_list, h]
 have b0 : bt s 0 = x0 := b 0
 have b1 : bt s 1 = x1 := b 1
 have b2 : bt s 2 = x2 := b 2
 have b3 : bt s 3 = x3 := b 3
 have b4 : bt s 4 = x4 := b 4
 have b5 : bt s 5 = x5 := b 5
 have b6 : bt s 6 = x6 := b 6
 have b7 : bt s 7 = x7 := b 7
 have b8 : bt s 8 = x8 := b 8
 have b9 : bt s 9 = x9 := b 9
 have b10 : bt s 10 = x10 := b 10
 unfold bpdu_Parse.f
 rw [if_neg (by omega), if_neg (by omega), nums_eq s hz, h]
 simp only [n1, n2, n4, Int.reduceAdd, b0, b1, b2, b3, b4, b5, b6, b7, b8, b9, b10, right_eq, Option.bind_some, List.sum_cons, List.sum_nil]
 unfold PL
 by_cases hs : (x0 + (x1 + (x2 + (x3 + (x4 + (x5 + (x6 + (x7 + (x8 + (x9 + (x10 + (x11 + 0)))))))))))) % 256 = 0
 ·rw [if_pos hs, if_pos hs]
  by_cases h0 : x0 = 0
  ·rw [if_pos h0]
   by_cases hr : Rt (x1 * 256 + x2) (x3 * 16777216 + x4 * 65536 + x5 * 256 + x6) (x7 * 256 + x8) x9 x10
   ·rw [if_pos (decide_eq_true hr), if_pos ⟨h0, hr⟩]
   ·rw [if_neg (by simp [hr]), if_neg (fun h => hr h.2)]
  ·rw [if_neg h0, if_neg (fun h => h0 h.1)]
 ·rw [if_neg hs, if_neg hs]
theorem Parse_Print {r c b p a : Int} (h : Rt r c b p a) : bpdu_Parse.f (strOfNums (L12 r c b p a)) = some (r, c, b, p, a, 0) := by
 have hl : bytesOf (strOfNums (L12 r c b p a)) = L12 r c b p a := bytes_of_str _ (L12_le r c b p a)
 rw [Parse_list _ _ _ _ _ _ _ _ _ _ _ _ _ (show bytesOf (strOfNums (L12 r c b p a)) = [0, (r / 256) % 256, r % 256, (c / 16777216) % 256, (c / 65536) % 256, (c / 256) % 256, c % 256, (b / 256) % 256, b % 256, p % 256, a % 256, ck r c b p a] from hl)]
 have hs := L12_sum r c b p a
 have h1 := h.r
 have h2 := h.c
 have h3 := h.b
 have h4 := h.p
 have h5 := h.a
 have e1 : (r / 256) % 256 * 256 + r % 256 = r := by omega
 have e2 : (c / 16777216) % 256 * 16777216 + (c / 65536) % 256 * 65536 + (c / 256) % 256 * 256 + c % 256 = c := by omega
 have e3 : (b / 256) % 256 * 256 + b % 256 = b := by omega
 have e4 : p % 256 = p := by omega
 have e5 : a % 256 = a := by omega
 unfold PL
 split
 ·rw [e1, e2, e3, e4, e5, if_pos ⟨rfl, h⟩]
 ·rename_i hn
  exact absurd hs hn
theorem tl (s : ByteArray) : s.toList = s.data.toList := by
 obtain ⟨⟨l⟩⟩ := s
 rw [show (ByteArray.mk { toList := l }) = ByteArray.mk l.toArray from rfl, ByteArray.toList_mk]
theorem tl_inj {s t : ByteArray} (h : s.toList = t.toList) : s = t := by
 rw [tl, tl] at h
 exact ByteArray.ext (Array.toList_inj.1 h)
theorem alive_eq : footwaylaw03_alive.f = some true := by
 unfold footwaylaw03_alive.f
 rw [Print_eq, if_pos (by decide)]
 simp only [Option.bind_some, if_true, tl]
 decide
end Go.Proofs.Ytnikfjfcbpeieaa.QB
end
section
namespace Go.Proofs.Ytnikfjfcbpeieaa.QF
open Go.RowKit Go.Proofs.Ytnikfjfcbpeieaa.PBa Go.Proofs.Ytnikfjfcbpeieaa.EFrame Go.Proofs.Ytnikfjfcbpeieaa.EMac Go.Proofs.YtnikfjfcbpeieaaW.PrintWords Go.Proofs.YtnikfjfcbpeieaaW.PrintLast Go.Proofs.YtnikfjfcbpeieaaW.PrintMore
set_option linter.unusedVariables false
set_option linter.unusedSimpArgs false
theorem and_top (a : Nat) (h : a < 2 ^ 64) : a &&& 18446744073709551600 = a / 2 ^ 4 * 2 ^ 4 := by
 rw [show 18446744073709551600 = (2 ^ 60 - 1) * 2 ^ 4 from by decide]
 apply Nat.eq_of_testBit_eq
 intro j
 rw [Nat.testBit_and, Nat.testBit_mul_two_pow, Nat.testBit_mul_two_pow, Nat.testBit_two_pow_sub_one, Nat.testBit_div_two_pow]
 by_cases h4 : 4 ≤ j
 ·rw [show j - 4 + 4 = j from by omega]
  by_cases h64 : j - 4 < 60
  ·simp [h4, h64]
  ·have : a.testBit j = false := Nat.testBit_lt_two_pow (Nat.lt_of_lt_of_le h (Nat.pow_le_pow_right (by decide) (by omega)))
   simp [this]
 ·simp [h4]
theorem andNot15 (a : Int) (h0 : 0 ≤ a) (h1 : a ≤ 281474976710655) : Go.bits .andNot .i64 a 15 = a / 16 * 16 := by
 obtain ⟨n, rfl⟩ := Int.eq_ofNat_of_zero_le h0
 show IntKind.i64.wrap ((BitVec.ofInt 64 (n : Int) &&& ~~~BitVec.ofInt 64 15).toNat : Int) = _
 have h2 : (BitVec.ofInt 64 15).toNat = 15 := by decide
 have h3 : (BitVec.ofInt 64 (n : Int)).toNat = n := by
  rw [BitVec.ofInt_natCast, BitVec.toNat_ofNat]; exact Nat.mod_eq_of_lt (by omega)
 rw [BitVec.toNat_and, BitVec.toNat_not, h3, h2, show 2 ^ 64 - 1 - 15 = 18446744073709551600 from by decide, and_top n (by omega), IntKind.wrap_i64]
 omega
theorem and1 (x : Int) (h0 : 0 ≤ x) (h1 : x < 9223372036854775808) : Go.bits .and .i64 x 1 = x % 2 := by
 have := bits_mask .i64 63 (by decide) (fun n h₀ h₁ => by rw [IntKind.wrap_i64]; omega) 1 (by decide) x h0 (by omega)
 exact this
def cls (a : Int) : Int := if a / 16 = 103282638848 then 2 else a / 1099511627776 % 2
theorem Class_yes {a : Int} (h0 : 0 ≤ a) (h1 : a ≤ 281474976710655) : mac_Class.f a = some (cls a, 0) := by
 unfold mac_Class.f mac_Right.f cls
 rw [if_pos h0]
 simp only [Option.bind_some, h1, decide_true, if_true]
 rw [andNot15 a h0 h1, and1 _ (by omega) (by omega)]
 by_cases h : a / 16 = 103282638848
 ·rw [if_pos h, if_pos (by omega)]
 ·rw [if_neg h, if_neg (by omega)]
theorem Class_no {a : Int} (h : ¬ (0 ≤ a ∧ a ≤ 281474976710655)) : mac_Class.f a = some (0, 1) := by
 unfold mac_Class.f mac_Right.f
 by_cases h0 : a ≥ 0
 ·rw [if_pos h0]
  have : ¬ a ≤ 281474976710655 := fun h1 => h ⟨h0, h1⟩
  simp [this]
 ·rw [if_neg h0]
  rfl
theorem rClass_eq {a : Int} (h0 : 0 ≤ a) (h1 : a ≤ 281474976710655) : footwayref01_Class.f a = some (cls a) := by
 unfold footwayref01_Class.f cls
 rw [Int.tdiv_eq_ediv_of_nonneg h0, Int.tdiv_eq_ediv_of_nonneg h0]
 rw [show wrap64 (a / 16) = a / 16 from by unfold wrap64; omega, show wrap64 (a / 1099511627776) = a / 1099511627776 from by unfold wrap64; omega, Int.tmod_eq_emod_of_nonneg (by omega)]
 by_cases h : a / 16 = 103282638848
 ·rw [if_pos h, if_pos h]
 ·rw [if_neg h, if_neg h]
  by_cases h2 : a / 1099511627776 % 2 = 1
  ·rw [if_pos h2, h2]
  ·rw [if_neg h2]
   congr 1
   omega
theorem macRight_eq (a : Int) : mac_Right.f a = some (decide (0 ≤ a ∧ a ≤ 281474976710655)) := by
 unfold mac_Right.f
 by_cases h0 : a ≥ 0
 ·rw [if_pos h0]
  have h0' : 0 ≤ a := h0
  simp [h0']
 ·rw [if_neg h0]
  have h0' : ¬ 0 ≤ a := h0
  simp [h0']
theorem rRight_eq (a : Int) : footwayref01_Right.f a = some (decide (0 ≤ a ∧ a ≤ 281474976710655)) := by
 unfold footwayref01_Right.f
 by_cases h0 : a ≥ 0
 ·rw [if_pos h0]
  have h0' : 0 ≤ a := h0
  simp only [h0', true_and, Option.some.injEq, decide_eq_decide]
  omega
 ·rw [if_neg h0]
  have h0' : ¬ 0 ≤ a := h0
  simp [h0']
theorem fRight_ref (d c t : Int) (n : ByteArray) : footwayref02_Right.f d c t n = frame_Right.f d c t n := by
 unfold footwayref02_Right.f frame_Right.f
 rw [rRight_eq d, rRight_eq c, macRight_eq d]
 simp only [Option.bind_some]
 by_cases hc : 0 ≤ c ∧ c ≤ 281474976710655
 ·rw [Class_yes hc.1 hc.2, rClass_eq hc.1 hc.2, decide_eq_true hc]
  simp only [Option.bind_some, if_true]
  by_cases hd : 0 ≤ d ∧ d ≤ 281474976710655
  ·rw [decide_eq_true hd]
   simp only [if_true]
   by_cases hk : cls c = 0
   ·rw [if_pos hk, if_pos hk]
    by_cases ht : t ≥ 0
    ·rw [if_pos ht, if_pos ht]
     by_cases ht2 : t ≤ 65535
     ·rw [if_pos (by omega), if_pos ht2]
     ·rw [if_neg (by omega), if_neg ht2]
    ·rw [if_neg ht, if_neg ht]
   ·rw [if_neg hk, if_neg hk]
  ·rw [decide_eq_false hd]
   simp
 ·rw [Class_no hc, decide_eq_false hc]
  simp
theorem rOf_step (k : Nat) (s : ByteArray) (a i j : Int) (hj : j = i + 1) (h0 : 0 ≤ a) (h1 : a < 36028797018963968) (h2 : 0 ≤ i) (h3 : i < 6) (h4 : s.size = 6) : footwayref01_Of.l0 (k + 1) s a i = footwayref01_Of.l0 k s (a * 256 + bt s i) j := by
 subst hj
 have hb := bt_range s i
 rw [footwayref01_Of.l0, if_pos (by omega), if_pos h2]
 rw [show wrap64 (wrap64 (256 * a) + wrap64 (bt s i)) = a * 256 + bt s i from by unfold wrap64; omega, show wrap64 (i + 1) = i + 1 from by unfold wrap64; omega]
theorem rOf_num (k : Nat) (s : ByteArray) (h : s.size = 6) : footwayref01_Of.f (k + 7) s = some (num6 s 0) := by
 have b0 := bt_range s 0
 have b1 := bt_range s 1
 have b2 := bt_range s 2
 have b3 := bt_range s 3
 have b4 := bt_range s 4
 have b5 := bt_range s 5
 unfold footwayref01_Of.f
 rw [rOf_step (k + 6) s _ _ 1 rfl (by omega) (by omega) (by omega) (by omega) h]
 rw [rOf_step (k + 5) s _ _ 2 rfl (by omega) (by omega) (by omega) (by omega) h]
 rw [rOf_step (k + 4) s _ _ 3 rfl (by omega) (by omega) (by omega) (by omega) h]
 rw [rOf_step (k + 3) s _ _ 4 rfl (by omega) (by omega) (by omega) (by omega) h]
 rw [rOf_step (k + 2) s _ _ 5 rfl (by omega) (by omega) (by omega) (by omega) h]
 rw [rOf_step (k + 1) s _ _ 6 rfl (by omega) (by omega) (by omega) (by omega) h]
 rw [footwayref01_Of.l0, if_neg (by omega)]
 unfold num6
 congr 1
 simp only [Int.zero_add]
 omega
theorem num6_sub (s : ByteArray) (lo : Nat) (h : lo + 6 ≤ s.size) : num6 (s.extract lo (lo + 6)) 0 = num6 s lo := by
 have h1 := Of_sub s lo h
 have hz : (s.extract lo (lo + 6)).size = 6 := by rw [ByteArray.size_extract]; omega
 rw [Of_num 0 _ hz] at h1
 simpa using h1
theorem rOf_sub (k : Nat) (s : ByteArray) (lo : Nat) (h : lo + 6 ≤ s.size) : footwayref01_Of.f (k + 7) (s.extract lo (lo + 6)) = some (num6 s lo) := by
 rw [rOf_num k _ (by rw [ByteArray.size_extract]; omega), num6_sub s lo h]
theorem rParse_eq (k : Nat) (s : ByteArray) : footwayref02_Parse.f (k + 7) s = frame_Parse.f s := by
 unfold footwayref02_Parse.f frame_Parse.f
 by_cases h0 : s.size < 14
 ·rw [if_pos (by omega), if_pos h0]
 ·rw [if_neg (by omega), if_neg h0]
  by_cases h1 : 114 < s.size
  ·rw [if_pos (by omega), if_pos h1]
  ·rw [if_neg (by omega), if_neg h1, if_pos (by decide), if_pos (by omega)]
   have e1 := rOf_sub k s 0 (by omega)
   have e2 := rOf_sub k s 6 (by omega)
   simp only [Nat.zero_add] at e1
   have b0 := bt_range s 12
   have b1 := bt_range s 13
   have e3 : wrap64 (wrap64 (256 * wrap64 (bt s 12)) + wrap64 (bt s 13)) = tnum s := by unfold wrap64 tnum; omega
   have e2' : footwayref01_Of.f (k + 7) (s.extract 6 12) = some (num6 s 6) := e2
   have e1' : footwayref01_Of.f (k + 7) (s.extract 0 6) = some (num6 s 0) := e1
   rw [e1', e2']
   simp only [Option.bind_some]
   rw [if_pos (by decide), if_pos (by omega), if_pos (by omega), if_pos (by omega), if_pos (by omega), e3, fRight_ref]
theorem rB_step (k : Nat) (a : Int) (x : ByteArray) (i j : Int) (hj : j = i + 1) (h0 : 0 ≤ a) (h1 : a ≤ 281474976710655) (h2 : 0 ≤ i) (h3 : i < 6) (hx : x.size ≤ 100) : footwayref01_Bytes.l0 (k + 1) a x i = footwayref01_Bytes.l0 k (a / 256) (strOfNums [a % 256] ++ x) j := by
 subst hj
 rw [footwayref01_Bytes.l0, if_pos h3]
 simp only [Option.bind_some]
 rw [Int.tmod_eq_emod_of_nonneg h0, Int.tdiv_eq_ediv_of_nonneg h0]
 rw [show a % 256 % 256 = a % 256 from by omega, show wrap64 (a / 256) = a / 256 from by unfold wrap64; omega, show wrap64 (i + 1) = i + 1 from by unfold wrap64; omega]
 rw [if_pos (by rw [str_size]; simp; omega)]
theorem str_cons (a b : List Int) (ha : ∀ x ∈ a, 0 ≤ x ∧ x ≤ 255) (hb : ∀ x ∈ b, 0 ≤ x ∧ x ≤ 255) : strOfNums a ++ strOfNums b = strOfNums (a ++ b) := by
 apply bytes_inj
 rw [bytes_append, bytes_of_str a ha, bytes_of_str b hb, bytes_of_str]
 intro x hx
 rcases List.mem_append.1 hx with h | h
 ·exact ha x h
 ·exact hb x h
theorem rBytes_eq (k : Nat) {a : Int} (h0 : 0 ≤ a) (h1 : a ≤ 281474976710655) : footwayref01_Bytes.f (k + 7) a = some (strOfNums (b6 a)) := by
 have ok : ∀ y : Int, ∀ x ∈ [y % 256], 0 ≤ x ∧ x ≤ 255 := by
  intro y x hx
  simp at hx
  omega
 have ok2 : ∀ (y : Int) (l : List Int), (∀ x ∈ l, 0 ≤ x ∧ x ≤ 255) → ∀ x ∈ ([y % 256] ++ l), 0 ≤ x ∧ x ≤ 255 := by
  intro y l hl x hx
  rcases List.mem_append.1 hx with h | h
  ·exact ok y x h
  ·exact hl x h
 unfold footwayref01_Bytes.f
 have z : (⟨#[]⟩ : ByteArray) = strOfNums [] := rfl
 have n0 : ∀ x ∈ ([] : List Int), 0 ≤ x ∧ x ≤ 255 := by simp
 rw [z, rB_step (k + 6) a _ 0 1 rfl (by omega) (by omega) (by omega) (by omega) (by decide), str_cons _ _ (ok _) n0]
 have n1 := ok2 a _ n0
 rw [rB_step (k + 5) _ _ 1 2 rfl (by omega) (by omega) (by omega) (by omega) (by rw [str_size]; simp), str_cons _ _ (ok _) n1]
 have n2 := ok2 (a / 256) _ n1
 rw [rB_step (k + 4) _ _ 2 3 rfl (by omega) (by omega) (by omega) (by omega) (by rw [str_size]; simp), str_cons _ _ (ok _) n2]
 have n3 := ok2 (a / 256 / 256) _ n2
 rw [rB_step (k + 3) _ _ 3 4 rfl (by omega) (by omega) (by omega) (by omega) (by rw [str_size]; simp), str_cons _ _ (ok _) n3]
 have n4 := ok2 (a / 256 / 256 / 256) _ n3
 rw [rB_step (k + 2) _ _ 4 5 rfl (by omega) (by omega) (by omega) (by omega) (by rw [str_size]; simp), str_cons _ _ (ok _) n4]
 have n5 := ok2 (a / 256 / 256 / 256 / 256) _ n4
 rw [rB_step (k + 1) _ _ 5 6 rfl (by omega) (by omega) (by omega) (by omega) (by rw [str_size]; simp), str_cons _ _ (ok _) n5]
 rw [footwayref01_Bytes.l0, if_neg (by decide)]
 congr 2
 unfold b6
 simp only [List.cons_append, List.nil_append, List.cons.injEq, and_true]
 refine ⟨by omega, by omega, by omega, by omega⟩
end Go.Proofs.Ytnikfjfcbpeieaa.QF
end
section
namespace Go.Proofs.Ytnikfjfcbpeieaa.PBp
open Go.RowKit Go.Proofs.YtnikfjfcbpeieaaW.PrintWords Go.Proofs.YtnikfjfcbpeieaaW.PrintLast Go.Proofs.YtnikfjfcbpeieaaW.PrintMore
attribute [local go_sem] max2_int min2_int max_two min_two max_three min_three max_four min_four   -- for this text's walks alone
set_option linter.unusedVariables false
set_option linter.unusedSimpArgs false
theorem eqA50 (d : Nat) (w : World) (x0 y0 : Int) (x1 y1 : Int) (x2 y2 : Int) (x3 y3 : Int) :
  (Op.equalIn (d + 2) 50 (.agg #[.int .i64 x0, .int .i64 x1, .int .i64 x2, .int .i64 x3]) (.agg #[.int .i64 y0, .int .i64 y1, .int .i64 y2, .int .i64 y3])).run Tq.prog w = .ok (x0 == y0 && (x1 == y1 && (x2 == y2 && (x3 == y3)))) w := by
 refine eqA_of Tq.underlying50 (by kernel_rfl) ?_
 refine eqf_cons (by rfl) (by go_simp; rfl) (by go_simp; rfl) (by go_simp) ?_
 refine eqf_cons (by rfl) (by go_simp; rfl) (by go_simp; rfl) (by go_simp) ?_
 refine eqf_cons (by rfl) (by go_simp; rfl) (by go_simp; rfl) (by go_simp) ?_
 exact eqf_last (by rfl) (by go_simp; rfl) (by go_simp; rfl) (by go_simp)
theorem eqA52 (d : Nat) (w : World) (x0 y0 : Int) (x1 y1 : Int) (x2 y2 : Int) (x3 y3 : Int) (x4 y4 : Int) :
  (Op.equalIn (d + 3) 52 (.agg #[.int .i64 x0, .int .i64 x1, .int .i64 x2, .int .i64 x3, .int .i64 x4]) (.agg #[.int .i64 y0, .int .i64 y1, .int .i64 y2, .int .i64 y3, .int .i64 y4])).run Tq.prog w = .ok ((x0 == y0 && (x1 == y1 && (x2 == y2 && (x3 == y3)))) && (x4 == y4)) w := by
 refine eqA_of Tq.underlying52 (by kernel_rfl) ?_
 refine eqf_cons (by rfl) (by go_simp) (by go_simp) (eqA50 (d + 0) w _ _ _ _ _ _ _ _) ?_
 exact eqf_last (by rfl) (by go_simp; rfl) (by go_simp; rfl) (by go_simp)
end Go.Proofs.Ytnikfjfcbpeieaa.PBp
end
