/- Frames as plain numbers: what Print and Parse answer, and that one undoes the other. -/
/- Bpdu's Print and Parse as plain numbers: what they answer, and that one undoes the other. -/
import Derived.Test.YtnikfjfcbpeieaaTq
import Derived.Test.YtnikfjfcbpeieaaProg
import Derived.Below
import Derived.Deep.Draws
import Derived.Deep.AppendLies
import Derived.Maps.AppendAt
import Derived.OwnWalk
import Derived.Laws.BytesArg
import Derived.Laws.MakeOwn
import Derived.Laws.OwnMore
import Derived.Deep.OwnRows
import Derived.Tactics
import Derived.Lib.ConvBytes
import Derived.Laws.Slices
import Derived.WalkKit
import Derived.KernelRfl
import Derived.RowKit3
import Derived.Deep.LoopGhost
import Derived.Deep.QuietTactic
import Derived.BigQuiet
import Derived.WideLaws
import Derived.Deep.DeepCutAuto
import Derived.Deep.CutBlock
import Derived.Deep.RegionHeld3
import Derived.Laws.Rows
import Derived.Lib.AppendStr
import Derived.ArgAppend
import Derived.Laws.IdiomCopy
import Derived.OrdersHeld
import Derived.Laws.BitsLemmas
import Derived.RowKit
import Derived.Test.YtnikfjfcbpeieaaMBW
import Derived.Test.YtnikfjfcbpeieaaMBTa
import Derived.Test.YtnikfjfcbpeieaaMBTf
import Derived.Test.YtnikfjfcbpeieaaMBTBp
import Derived.Test.YtnikfjfcbpeieaaMBTb
section
-- Laid by a program of this session out of the translation; Lean checks it.
namespace Go.Proofs.Ytnikfjfcbpeieaa.PBp
open Go.RowKit Go.Proofs.YtnikfjfcbpeieaaW.PrintWords Go.Proofs.YtnikfjfcbpeieaaW.PrintLast Go.Proofs.YtnikfjfcbpeieaaW.PrintMore
attribute [local go_sem] max2_int min2_int max_two min_two max_three min_three max_four min_four   -- for this text's walks alone
set_option linter.unusedVariables false
set_option linter.unusedSimpArgs false



def errW : Option Int → Value
  | none => .nilIface
  | some c => .iface 0 (.int .i64 c)
theorem errW_none : errW none = .nilIface := rfl
theorem errW_some (c : Int) : errW (some c) = .iface 0 (.int .i64 c) := rfl

theorem info5 : (Tq.prog.info? 5).map (fun i => (i.zero, i.size, i.bytes)) = some (some (.int .u8 0), 1, 1) := by kernel_rfl
-- the values' own types

end Go.Proofs.Ytnikfjfcbpeieaa.PBp
end
section
-- Laid by a program of this session out of the translation; Lean checks it.
namespace Go.Proofs.Ytnikfjfcbpeieaa.PBp
open Go.RowKit Go.Proofs.Ytnikfjfcbpeieaa.PBq Go.Proofs.Ytnikfjfcbpeieaa.EFrame Go.Proofs.Ytnikfjfcbpeieaa.PBa Go.Proofs.Ytnikfjfcbpeieaa.PFr Go.Proofs.Ytnikfjfcbpeieaa.EBp Go.Proofs.YtnikfjfcbpeieaaW.PrintWords Go.Proofs.YtnikfjfcbpeieaaW.PrintLast Go.Proofs.YtnikfjfcbpeieaaW.PrintMore
attribute [local go_sem] max2_int min2_int max_two min_two max_three min_three max_four min_four   -- for this text's walks alone
set_option linter.unusedVariables false
set_option linter.unusedSimpArgs false

-- by hand: function 58 (bpdu_Right)

-- by hand: function 68 (bpdu_sum)

/-! ### bpdu_Print: function 39 -/
def bpdu_Print.f (a0_0 : Int) (a0_1 : Int) (a0_2 : Int) (a0_3 : Int) (a0_4 : Int) : Option (ByteArray × Int) := (bpdu_Right.f a0_0 a0_1 a0_2 a0_3 a0_4).bind fun t102 => (if t102 = true then ((some (([0, (a0_0 / 256) % 256, (a0_0) % 256, (a0_1 / 16777216) % 256, (a0_1 / 65536) % 256, (a0_1 / 256) % 256, (a0_1) % 256, (a0_2 / 256) % 256, (a0_2) % 256, (a0_3) % 256, (a0_4) % 256] : List Int) : List Int)).bind fun y104 => ((bpdu_sum.f y104).bind fun t107 => (if y104.length < 140737488355328 then (some (strOfNums (y104 ++ [(-t107) % 256]), 0)) else (none)))) else (some ((⟨#[]⟩ : ByteArray), 1)))
set_option maxHeartbeats 8000000 in
set_option maxRecDepth 100000 in
theorem bpdu_Print.calls (a0_0 : Int) (a0_1 : Int) (a0_2 : Int) (a0_3 : Int) (a0_4 : Int) (r1 : ByteArray) (r2 : Int) (w : World) (h : bpdu_Print.f a0_0 a0_1 a0_2 a0_3 a0_4 = some (r1, r2)) :
    Calls Tq.prog 39 #[.agg #[.int .i64 a0_0, .int .i64 a0_1, .int .i64 a0_2, .int .i64 a0_3, .int .i64 a0_4]] w fun e w' => e = .returned (.tuple #[.string r1, .int .i64 r2]) ∧ Below w.heap.size w w' := by
  have hu52 := Tq.underlying52
  have hu50 := Tq.underlying50
  have HB := Aside0.mk (Below.refl w.heap.size w)
  have H : ((bpdu_Right.f a0_0 a0_1 a0_2 a0_3 a0_4).bind fun t102 => (if t102 = true then ((some (([0, (a0_0 / 256) % 256, (a0_0) % 256, (a0_1 / 16777216) % 256, (a0_1 / 65536) % 256, (a0_1 / 256) % 256, (a0_1) % 256, (a0_2 / 256) % 256, (a0_2) % 256, (a0_3) % 256, (a0_4) % 256] : List Int) : List Int)).bind fun y104 => ((bpdu_sum.f y104).bind fun t107 => (if y104.length < 140737488355328 then (some (strOfNums (y104 ++ [(-t107) % 256]), 0)) else (none)))) else (some ((⟨#[]⟩ : ByteArray), 1)))) = some (r1, r2) := h
  clear h
  replace H := Option.bind_eq_some_iff.mp H
  obtain ⟨t102, A20, H⟩ := H
  replace H : (if t102 = true then ((some (([0, (a0_0 / 256) % 256, (a0_0) % 256, (a0_1 / 16777216) % 256, (a0_1 / 65536) % 256, (a0_1 / 256) % 256, (a0_1) % 256, (a0_2 / 256) % 256, (a0_2) % 256, (a0_3) % 256, (a0_4) % 256] : List Int) : List Int)).bind fun y104 => ((bpdu_sum.f y104).bind fun t107 => (if y104.length < 140737488355328 then (some (strOfNums (y104 ++ [(-t107) % 256]), 0)) else (none)))) else (some ((⟨#[]⟩ : ByteArray), 1))) = some (r1, r2) := H
  have A2 := Aside0.mk A20
  clear A20
  by_cases c3 : t102 = true
  · subst c3
    have H1 : ((some (([0, (a0_0 / 256) % 256, (a0_0) % 256, (a0_1 / 16777216) % 256, (a0_1 / 65536) % 256, (a0_1 / 256) % 256, (a0_1) % 256, (a0_2 / 256) % 256, (a0_2) % 256, (a0_3) % 256, (a0_4) % 256] : List Int) : List Int)).bind fun y104 => ((bpdu_sum.f y104).bind fun t107 => (if y104.length < 140737488355328 then (some (strOfNums (y104 ++ [(-t107) % 256]), 0)) else (none)))) = some (r1, r2) := by rw [if_pos rfl] at H; exact H
    clear H
    have H := H1
    clear H1
    obtain ⟨y104, hy104⟩ : ∃ y_ : List Int, y_ = (([0, (a0_0 / 256) % 256, (a0_0) % 256, (a0_1 / 16777216) % 256, (a0_1 / 65536) % 256, (a0_1 / 256) % 256, (a0_1) % 256, (a0_2 / 256) % 256, (a0_2) % 256, (a0_3) % 256, (a0_4) % 256] : List Int)) := ⟨_, rfl⟩
    replace H : ((bpdu_sum.f y104).bind fun t107 => (if y104.length < 140737488355328 then (some (strOfNums (y104 ++ [(-t107) % 256]), 0)) else (none))) = some (r1, r2) := by first | (rw [hy104]; with_reducible exact H) | (have H2_ := (Option.bind_some _ _).symm.trans H; rw [hy104]; with_reducible exact H2_) | (have H2_ := (Option.bind_some _ _).symm.trans H; with_reducible exact H2_) | with_reducible exact H | (rw [hy104]; exact H) | exact H
    have Ny104 := Aside0.mk hy104
    clear hy104
    replace H := Option.bind_eq_some_iff.mp H
    obtain ⟨t107, A40, H⟩ := H
    replace H : (if y104.length < 140737488355328 then (some (strOfNums (y104 ++ [(-t107) % 256]), 0)) else (none)) = some (r1, r2) := H
    have A4 := Aside0.mk A40
    clear A40
    by_cases c5 : y104.length < 140737488355328
    · rw [if_pos c5] at H
      have LMc5 := Aside0.mk c5
      clear c5
      obtain ⟨y108, hy108⟩ : ∃ y_ : List Int, y_ = (y104 ++ [(-t107) % 256]) := ⟨_, rfl⟩
      replace H : (some (strOfNums y108, 0)) = some (r1, r2) := by first | (rw [hy108]; with_reducible exact H) | (have H2_ := (Option.bind_some _ _).symm.trans H; rw [hy108]; with_reducible exact H2_) | (have H2_ := (Option.bind_some _ _).symm.trans H; with_reducible exact H2_) | with_reducible exact H | (rw [hy108]; exact H) | exact H
      have Ny108 := Aside0.mk hy108
      clear hy108
      simp only [Option.some.injEq, Prod.mk.injEq] at H
      obtain ⟨rfl, rfl⟩ := H
      go_enter Tq.func39, Try.ntmps39
      go_wp2_with (first | ((with_reducible refine gate_dst (N := 1) rfl ?_); refine box_event ?hg (N := 1) ?hd (cs := #[.int .i64 a0_0, .int .i64 a0_1, .int .i64 a0_2, .int .i64 a0_3, .int .i64 a0_4]) (t := 52) ?hr ?_; (case hd => rfl); (case hg => rfl); (case hr => first | (go_simp; done) | (go_simp; rfl)); intro gb101 hg w6 hbox hb; have n0_ := Aside0.mk (below_step (by repeat (first | (with_reducible first | exact HB.out | apply below_alloc | apply pw_below_drewN | apply below_drew1) | exact HB.out)) hb); have n1_ := Aside0.mk (hbox); have n2_ := Aside0.mk ((by rw [hg]; exact (below_size (by repeat (first | (with_reducible first | exact HB.out | apply below_alloc | apply pw_below_drewN | apply below_drew1) | exact HB.out))) : w.heap.size ≤ gb101)); have n3_ := Aside0.mk ((by rw [hg]; exact (below_size (by repeat (first | (with_reducible first | exact HB.out | apply below_alloc | apply pw_below_drewN | apply below_drew1) | exact HB.out))) : w.heap.size ≤ gb101)); clear HB; have HB := n0_; have BK101 := n1_; have GW101 := n2_; have GE101 := n3_; clear n0_ n1_ n2_ n3_; clear hb hbox hg; have hcz7_0 : w6.cell? ⟨gb101, 0, none⟩ = some (.int .i64 a0_0) := (blk_cell BK101.out 0).trans rfl; have hcz7_1 : w6.cell? ⟨gb101, 1, none⟩ = some (.int .i64 a0_1) := (blk_cell BK101.out 1).trans rfl; have hcz7_2 : w6.cell? ⟨gb101, 2, none⟩ = some (.int .i64 a0_2) := (blk_cell BK101.out 2).trans rfl; have hcz7_3 : w6.cell? ⟨gb101, 3, none⟩ = some (.int .i64 a0_3) := (blk_cell BK101.out 3).trans rfl; have hcz7_4 : w6.cell? ⟨gb101, 4, none⟩ = some (.int .i64 a0_4) := (blk_cell BK101.out 4).trans rfl; have hfz7_0 := blk_frozen BK101.out 0; have hfz7_1 := blk_frozen BK101.out 1; have hfz7_2 := blk_frozen BK101.out 2; have hfz7_3 := blk_frozen BK101.out 3; have hfz7_4 := blk_frozen BK101.out 4) | ((with_reducible refine gate_callee (f := 58) rfl ?_); refine goesL_ (some 7) rfl rfl Tq.func58 (by kernel_rfl) rfl #[.agg #[.int .i64 a0_0, .int .i64 a0_1, .int .i64 a0_2, .int .i64 a0_3, .int .i64 a0_4]] rfl (by (try simp only [List.map_toArray, List.map_cons, List.map_nil]); first | done | rfl | (simp only [List.length_drop, List.length_take]; rfl)) ?_; (with_reducible refine (bpdu_Right.calls a0_0 a0_1 a0_2 a0_3 a0_4 true _ A2.out).mono ?_); rintro e w8 ⟨rfl, hb⟩; refine ⟨_, rfl, ?_⟩; have n0_ := Aside0.mk (blk_below (g := gb101) (o := .cells #[.int .i64 a0_0, .int .i64 a0_1, .int .i64 a0_2, .int .i64 a0_3, .int .i64 a0_4] 52 (0, 0)) (by (with_reducible repeat (first | refine blk_drewN ?_ _ | refine blk_drew ?_ | refine blk_alloc ?_ _)); exact BK101.out) hb); have n1_ := Aside0.mk (below_step (by repeat (first | (with_reducible first | exact HB.out | apply below_alloc | apply pw_below_drewN | apply below_drew1 | refine below_set ?_ GE101.out) | exact HB.out)) hb); clear BK101; clear HB; have BK101 := n0_; have HB := n1_; clear n0_ n1_; (try clear hb); (try clear hb2); (try clear hk); (try clear hi); have hcz9_0 : w8.cell? ⟨gb101, 0, none⟩ = some (.int .i64 a0_0) := (blk_cell BK101.out 0).trans rfl; have hcz9_1 : w8.cell? ⟨gb101, 1, none⟩ = some (.int .i64 a0_1) := (blk_cell BK101.out 1).trans rfl; have hcz9_2 : w8.cell? ⟨gb101, 2, none⟩ = some (.int .i64 a0_2) := (blk_cell BK101.out 2).trans rfl; have hcz9_3 : w8.cell? ⟨gb101, 3, none⟩ = some (.int .i64 a0_3) := (blk_cell BK101.out 3).trans rfl; have hcz9_4 : w8.cell? ⟨gb101, 4, none⟩ = some (.int .i64 a0_4) := (blk_cell BK101.out 4).trans rfl; have hfz9_0 := blk_frozen BK101.out 0; have hfz9_1 := blk_frozen BK101.out 1; have hfz9_2 := blk_frozen BK101.out 2; have hfz9_3 := blk_frozen BK101.out 3; have hfz9_4 := blk_frozen BK101.out 4) | ((with_reducible refine gate_dst (N := 4) rfl ?_); refine box_event ?hg (N := 4) ?hd (cs := #[.int .i64 0, .int .i64 0, .int .i64 0, .int .i64 0]) (t := 50) ?hr ?_; (case hd => rfl); (case hg => rfl); (case hr => first | (go_simp; done) | (go_simp; rfl)); intro gb103 hg w10 hbox hb; have n0_ := Aside0.mk (blk_below (g := gb101) (o := .cells #[.int .i64 a0_0, .int .i64 a0_1, .int .i64 a0_2, .int .i64 a0_3, .int .i64 a0_4] 52 (0, 0)) (by (with_reducible repeat (first | refine blk_drewN ?_ _ | refine blk_drew ?_ | refine blk_alloc ?_ _)); exact BK101.out) hb); have n1_ := Aside0.mk (below_step (by repeat (first | (with_reducible first | exact HB.out | apply below_alloc | apply pw_below_drewN | apply below_drew1 | refine below_set ?_ GE101.out) | exact HB.out)) hb); have n2_ := Aside0.mk (hbox); have n3_ := Aside0.mk ((by rw [hg]; exact (below_size (by repeat (first | (with_reducible first | exact HB.out | apply below_alloc | apply pw_below_drewN | apply below_drew1 | refine below_set ?_ GE101.out) | exact HB.out))) : w.heap.size ≤ gb103)); have n4_ := Aside0.mk ((by rw [hg]; exact (below_size (by repeat (first | (with_reducible first | exact HB.out | apply below_alloc | apply pw_below_drewN | apply below_drew1 | refine below_set ?_ GE101.out) | exact HB.out))) : w.heap.size ≤ gb103)); have n5_ := Aside0.mk ((by rw [hg]; exact Nat.ne_of_lt (blk_lt (g := gb101) (o := .cells #[.int .i64 a0_0, .int .i64 a0_1, .int .i64 a0_2, .int .i64 a0_3, .int .i64 a0_4] 52 (0, 0)) (by (with_reducible repeat (first | refine blk_drewN ?_ _ | refine blk_drew ?_ | refine blk_alloc ?_ _)); exact BK101.out)) : gb101 ≠ gb103)); have n6_ := Aside0.mk ((by rw [hg]; exact Nat.ne_of_gt (blk_lt (g := gb101) (o := .cells #[.int .i64 a0_0, .int .i64 a0_1, .int .i64 a0_2, .int .i64 a0_3, .int .i64 a0_4] 52 (0, 0)) (by (with_reducible repeat (first | refine blk_drewN ?_ _ | refine blk_drew ?_ | refine blk_alloc ?_ _)); exact BK101.out)) : gb103 ≠ gb101)); clear BK101; clear HB; have BK101 := n0_; have HB := n1_; have BK103 := n2_; have GW103 := n3_; have GE103 := n4_; have NB101_103 := n5_; have NB103_101 := n6_; clear n0_ n1_ n2_ n3_ n4_ n5_ n6_; clear hb hbox hg; have hnb11 := NB103_101.out; have hnc11 := NB101_103.out; have hcz12_0 : w10.cell? ⟨gb103, 0, none⟩ = some (.int .i64 0) := (blk_cell BK103.out 0).trans rfl; have hcz12_1 : w10.cell? ⟨gb103, 1, none⟩ = some (.int .i64 0) := (blk_cell BK103.out 1).trans rfl; have hcz12_2 : w10.cell? ⟨gb103, 2, none⟩ = some (.int .i64 0) := (blk_cell BK103.out 2).trans rfl; have hcz12_3 : w10.cell? ⟨gb103, 3, none⟩ = some (.int .i64 0) := (blk_cell BK103.out 3).trans rfl; have hfz12_0 := blk_frozen BK103.out 0; have hfz12_1 := blk_frozen BK103.out 1; have hfz12_2 := blk_frozen BK103.out 2; have hfz12_3 := blk_frozen BK103.out 3; have hcz13_0 : w10.cell? ⟨gb101, 0, none⟩ = some (.int .i64 a0_0) := (blk_cell BK101.out 0).trans rfl; have hcz13_1 : w10.cell? ⟨gb101, 1, none⟩ = some (.int .i64 a0_1) := (blk_cell BK101.out 1).trans rfl; have hcz13_2 : w10.cell? ⟨gb101, 2, none⟩ = some (.int .i64 a0_2) := (blk_cell BK101.out 2).trans rfl; have hcz13_3 : w10.cell? ⟨gb101, 3, none⟩ = some (.int .i64 a0_3) := (blk_cell BK101.out 3).trans rfl; have hcz13_4 : w10.cell? ⟨gb101, 4, none⟩ = some (.int .i64 a0_4) := (blk_cell BK101.out 4).trans rfl; have hfz13_0 := blk_frozen BK101.out 0; have hfz13_1 := blk_frozen BK101.out 1; have hfz13_2 := blk_frozen BK101.out 2; have hfz13_3 := blk_frozen BK101.out 3; have hfz13_4 := blk_frozen BK101.out 4) | ((with_reducible refine gate_dst (N := 46) rfl ?_); refine Kd.R_lit (Kd.int .u8) _ 5 ?hg (N := 46) ?hd (xs := ([0, (a0_0 / 256) % 256, (a0_0) % 256, (a0_1 / 16777216) % 256, (a0_1 / 65536) % 256, (a0_1 / 256) % 256, (a0_1) % 256, (a0_2 / 256) % 256, (a0_2) % 256, (a0_3) % 256, (a0_4) % 256] : List Int)) (inner := [.int .u8 0, .int .u8 ((a0_0 / 256) % 256), .int .u8 ((a0_0) % 256), .int .u8 ((a0_1 / 16777216) % 256), .int .u8 ((a0_1 / 65536) % 256), .int .u8 ((a0_1 / 256) % 256), .int .u8 ((a0_1) % 256), .int .u8 ((a0_2 / 256) % 256), .int .u8 ((a0_2) % 256), .int .u8 ((a0_3) % 256), .int .u8 ((a0_4) % 256)]) (ok := fun _ => True) (okp := fun _ => True) ?hr ?hp (fun _ hk => hk) trivial (Below.refl _ _) (Nat.le_refl _) (by simp) ?_; (case hd => rfl); (case hg => rfl); (case hr => first | (go_simp; done) | (go_simp; rfl)); (case hp => exact (Reps.one (show Kd.M (Kd.int .u8) _ _ _ 0 [.int .u8 0] from rfl) (Reps.one (show Kd.M (Kd.int .u8) _ _ _ ((a0_0 / 256) % 256) [.int .u8 ((a0_0 / 256) % 256)] from rfl) (Reps.one (show Kd.M (Kd.int .u8) _ _ _ ((a0_0) % 256) [.int .u8 ((a0_0) % 256)] from rfl) (Reps.one (show Kd.M (Kd.int .u8) _ _ _ ((a0_1 / 16777216) % 256) [.int .u8 ((a0_1 / 16777216) % 256)] from rfl) (Reps.one (show Kd.M (Kd.int .u8) _ _ _ ((a0_1 / 65536) % 256) [.int .u8 ((a0_1 / 65536) % 256)] from rfl) (Reps.one (show Kd.M (Kd.int .u8) _ _ _ ((a0_1 / 256) % 256) [.int .u8 ((a0_1 / 256) % 256)] from rfl) (Reps.one (show Kd.M (Kd.int .u8) _ _ _ ((a0_1) % 256) [.int .u8 ((a0_1) % 256)] from rfl) (Reps.one (show Kd.M (Kd.int .u8) _ _ _ ((a0_2 / 256) % 256) [.int .u8 ((a0_2 / 256) % 256)] from rfl) (Reps.one (show Kd.M (Kd.int .u8) _ _ _ ((a0_2) % 256) [.int .u8 ((a0_2) % 256)] from rfl) (Reps.one (show Kd.M (Kd.int .u8) _ _ _ ((a0_3) % 256) [.int .u8 ((a0_3) % 256)] from rfl) (Reps.one (show Kd.M (Kd.int .u8) _ _ _ ((a0_4) % 256) [.int .u8 ((a0_4) % 256)] from rfl) (Reps.none _ _))))))))))))); intro v105 w14 ho15 hb hg_ hnew_; clear hg_ hnew_; (first | rw [← Ny104.out] at ho15 | (simp only [Int.reduceToNat] at ho15; rw [← Ny104.out] at ho15)); have n0_ := Aside0.mk (Kd.R_lower ho15 (below_size (by repeat (first | (with_reducible first | exact HB.out | apply below_alloc | apply pw_below_drewN | apply below_drew1 | refine below_set ?_ GE101.out | refine below_set ?_ GE103.out) | exact HB.out)))); have n1_ := Aside0.mk (blk_below (g := gb101) (o := .cells #[.int .i64 a0_0, .int .i64 a0_1, .int .i64 a0_2, .int .i64 a0_3, .int .i64 a0_4] 52 (0, 0)) (by (with_reducible repeat (first | refine blk_drewN ?_ _ | refine blk_drew ?_ | refine blk_alloc ?_ _)); refine blk_far ?_ NB101_103.out _; (with_reducible repeat (first | refine blk_drewN ?_ _ | refine blk_drew ?_ | refine blk_alloc ?_ _)); refine blk_far ?_ NB101_103.out _; (with_reducible repeat (first | refine blk_drewN ?_ _ | refine blk_drew ?_ | refine blk_alloc ?_ _)); refine blk_far ?_ NB101_103.out _; (with_reducible repeat (first | refine blk_drewN ?_ _ | refine blk_drew ?_ | refine blk_alloc ?_ _)); refine blk_far ?_ NB101_103.out _; (with_reducible repeat (first | refine blk_drewN ?_ _ | refine blk_drew ?_ | refine blk_alloc ?_ _)); exact BK101.out) hb); have n2_ := Aside0.mk (blk_below (g := gb103) (o := .cells #[.int .i64 a0_0, .int .i64 a0_1, .int .i64 a0_2, .int .i64 a0_3] 50 (0, 0)) (by (with_reducible repeat (first | refine blk_drewN ?_ _ | refine blk_drew ?_ | refine blk_alloc ?_ _)); refine blk_put (cs := #[.int .i64 a0_0, .int .i64 a0_1, .int .i64 a0_2, .int .i64 0]) ?_ 3 _ rfl; (with_reducible repeat (first | refine blk_drewN ?_ _ | refine blk_drew ?_ | refine blk_alloc ?_ _)); refine blk_put (cs := #[.int .i64 a0_0, .int .i64 a0_1, .int .i64 0, .int .i64 0]) ?_ 2 _ rfl; (with_reducible repeat (first | refine blk_drewN ?_ _ | refine blk_drew ?_ | refine blk_alloc ?_ _)); refine blk_put (cs := #[.int .i64 a0_0, .int .i64 0, .int .i64 0, .int .i64 0]) ?_ 1 _ rfl; (with_reducible repeat (first | refine blk_drewN ?_ _ | refine blk_drew ?_ | refine blk_alloc ?_ _)); refine blk_put (cs := #[.int .i64 0, .int .i64 0, .int .i64 0, .int .i64 0]) ?_ 0 _ rfl; (with_reducible repeat (first | refine blk_drewN ?_ _ | refine blk_drew ?_ | refine blk_alloc ?_ _)); exact BK103.out) hb); have n3_ := Aside0.mk (below_step (by repeat (first | (with_reducible first | exact HB.out | apply below_alloc | apply pw_below_drewN | apply below_drew1 | refine below_set ?_ GE101.out | refine below_set ?_ GE103.out) | exact HB.out)) hb); clear BK101; clear BK103; clear HB; have HO106 := n0_; have BK101 := n1_; have BK103 := n2_; have HB := n3_; clear n0_ n1_ n2_ n3_; clear hb ho15; obtain ⟨Ao16, co16, eo16⟩ := Kd.R_slice HO106.out; subst eo16) | ((with_reducible refine gate_callee (f := 68) rfl ?_); refine goesL_ (some 49) rfl rfl Tq.func68 (by kernel_rfl) rfl #[.slice Ao16 y104.length co16] rfl (by (try simp only [List.map_toArray, List.map_cons, List.map_nil]); first | done | rfl | (simp only [List.length_drop, List.length_take]; rfl)) ?_; (with_reducible refine (bpdu_sum.calls _ _ y104 t107 _ ?side1 ?side2 A4.out).mono ?_); (case side1 => repeat (first | exact (Kd.R_reads' HO106.out).2.2 | (with_reducible refine Kd.C_alloc ?_ _) | (with_reducible refine Kd.C_drewN ?_ _) | (with_reducible refine Kd.C_drew ?_))); (case side2 => exact (Kd.R_reads' HO106.out).2.1); rintro e w17 ⟨rfl, hb⟩; refine ⟨_, rfl, ?_⟩; have n0_ := Aside0.mk (Kd.R_below (by (with_reducible repeat (first | apply Kd.R_alloc | apply Kd.R_drewN | apply Kd.R_drew)); exact HO106.out) hb); have n1_ := Aside0.mk (blk_below (g := gb101) (o := .cells #[.int .i64 a0_0, .int .i64 a0_1, .int .i64 a0_2, .int .i64 a0_3, .int .i64 a0_4] 52 (0, 0)) (by (with_reducible repeat (first | refine blk_drewN ?_ _ | refine blk_drew ?_ | refine blk_alloc ?_ _)); exact BK101.out) hb); have n2_ := Aside0.mk (blk_below (g := gb103) (o := .cells #[.int .i64 a0_0, .int .i64 a0_1, .int .i64 a0_2, .int .i64 a0_3] 50 (0, 0)) (by (with_reducible repeat (first | refine blk_drewN ?_ _ | refine blk_drew ?_ | refine blk_alloc ?_ _)); exact BK103.out) hb); have n3_ := Aside0.mk (below_step (by repeat (first | (with_reducible first | exact HB.out | apply below_alloc | apply pw_below_drewN | apply below_drew1 | refine below_set ?_ GE101.out | refine below_set ?_ GE103.out) | exact HB.out)) hb); clear HO106; clear BK101; clear BK103; clear HB; have HO106 := n0_; have BK101 := n1_; have BK103 := n2_; have HB := n3_; clear n0_ n1_ n2_ n3_; (try clear hb); (try clear hb2); (try clear hk); (try clear hi)) | ((with_reducible refine gate_builtin (b := .append) (xs := #[.tmp 47, .tmp 51]) rfl ?_); at_builtin; refine Kd.R_append (Kd.int .u8) (w0 := w) w.heap.size rfl (.tmp 47) (.tmp 51) 35 5 (.int .u8 0) 1 rfl Tq.underlying35 info5 rfl (by decide) (by omega) (.slice Ao16 y104.length co16) y104 ((-t107) % 256) [.int .u8 ((-t107) % 256)] (fun _ => True) (fun _ => False) rfl rfl ?aP (fun _ hk => hk.elim) ?aF ?aO ?aB ?aS ?aL ?_; (case aP => exact rfl); (case aB => exact (by repeat (first | (with_reducible first | exact HB.out | apply below_alloc | apply pw_below_drewN | apply below_drew1 | refine below_set ?_ GE101.out | refine below_set ?_ GE103.out) | exact HB.out))); (case aF => exact (fun _ _ => trivial)); (case aO => exact (by (with_reducible repeat (first | apply Kd.R_alloc | apply Kd.R_drewN | apply Kd.R_drew)); exact HO106.out)); (case aS => exact (below_size (by repeat (first | (with_reducible first | exact HB.out | apply below_alloc | apply pw_below_drewN | apply below_drew1 | refine below_set ?_ GE101.out | refine below_set ?_ GE103.out) | exact HB.out)))); (case aL => have := LMc5.out; omega); intro v109 w18 ho hb hg hat; rw [← Ny108.out] at ho; have n0_ := Aside0.mk (blk_grown (g := gb101) (o := .cells #[.int .i64 a0_0, .int .i64 a0_1, .int .i64 a0_2, .int .i64 a0_3, .int .i64 a0_4] 52 (0, 0)) (by (with_reducible repeat (first | refine blk_drewN ?_ _ | refine blk_drew ?_ | refine blk_alloc ?_ _)); exact BK101.out) hg (Kd.R_ne HO106.out BK101.out (by decide))); have n1_ := Aside0.mk (blk_grown (g := gb103) (o := .cells #[.int .i64 a0_0, .int .i64 a0_1, .int .i64 a0_2, .int .i64 a0_3] 50 (0, 0)) (by (with_reducible repeat (first | refine blk_drewN ?_ _ | refine blk_drew ?_ | refine blk_alloc ?_ _)); exact BK103.out) hg (Kd.R_ne HO106.out BK103.out (by decide))); have n2_ := Aside0.mk (hb); have n3_ := Aside0.mk (ho); clear BK101; clear BK103; clear HB; clear HO106; have BK101 := n0_; have BK103 := n1_; have HB := n2_; have HO110 := n3_; clear n0_ n1_ n2_ n3_; clear ho hb hg hat; have hcv19 := own_string (P := Tq.prog) Tq.underlying35 Tq.underlying5 Tq.underlying9 (Kd.own_of_R HO110.out)))
      go_ret2
      exact ⟨by first | rfl | (simp [errW_none, errW_some] <;> rfl) | (simp [*, errW_none, errW_some] <;> rfl), by repeat (first | (with_reducible first | exact HB.out | apply below_alloc | apply pw_below_drewN | apply below_drew1 | refine below_set ?_ GE101.out | refine below_set ?_ GE103.out) | exact HB.out)⟩
    · rw [if_neg c5] at H
      exact absurd H (by simp)
  · replace c3 := Bool.eq_false_iff.mpr c3
    subst c3
    have H1 : (some ((⟨#[]⟩ : ByteArray), 1)) = some (r1, r2) := by rw [if_neg (show ¬ (false = true) by decide)] at H; exact H
    clear H
    have H := H1
    clear H1
    simp only [Option.some.injEq, Prod.mk.injEq] at H
    obtain ⟨rfl, rfl⟩ := H
    go_enter Tq.func39, Try.ntmps39
    go_wp2_with (first | ((with_reducible refine gate_dst (N := 1) rfl ?_); refine box_event ?hg (N := 1) ?hd (cs := #[.int .i64 a0_0, .int .i64 a0_1, .int .i64 a0_2, .int .i64 a0_3, .int .i64 a0_4]) (t := 52) ?hr ?_; (case hd => rfl); (case hg => rfl); (case hr => first | (go_simp; done) | (go_simp; rfl)); intro gb101 hg w20 hbox hb; have n0_ := Aside0.mk (below_step (by repeat (first | (with_reducible first | exact HB.out | apply below_alloc | apply pw_below_drewN | apply below_drew1) | exact HB.out)) hb); have n1_ := Aside0.mk (hbox); have n2_ := Aside0.mk ((by rw [hg]; exact (below_size (by repeat (first | (with_reducible first | exact HB.out | apply below_alloc | apply pw_below_drewN | apply below_drew1) | exact HB.out))) : w.heap.size ≤ gb101)); have n3_ := Aside0.mk ((by rw [hg]; exact (below_size (by repeat (first | (with_reducible first | exact HB.out | apply below_alloc | apply pw_below_drewN | apply below_drew1) | exact HB.out))) : w.heap.size ≤ gb101)); clear HB; have HB := n0_; have BK101 := n1_; have GW101 := n2_; have GE101 := n3_; clear n0_ n1_ n2_ n3_; clear hb hbox hg; have hcz21_0 : w20.cell? ⟨gb101, 0, none⟩ = some (.int .i64 a0_0) := (blk_cell BK101.out 0).trans rfl; have hcz21_1 : w20.cell? ⟨gb101, 1, none⟩ = some (.int .i64 a0_1) := (blk_cell BK101.out 1).trans rfl; have hcz21_2 : w20.cell? ⟨gb101, 2, none⟩ = some (.int .i64 a0_2) := (blk_cell BK101.out 2).trans rfl; have hcz21_3 : w20.cell? ⟨gb101, 3, none⟩ = some (.int .i64 a0_3) := (blk_cell BK101.out 3).trans rfl; have hcz21_4 : w20.cell? ⟨gb101, 4, none⟩ = some (.int .i64 a0_4) := (blk_cell BK101.out 4).trans rfl; have hfz21_0 := blk_frozen BK101.out 0; have hfz21_1 := blk_frozen BK101.out 1; have hfz21_2 := blk_frozen BK101.out 2; have hfz21_3 := blk_frozen BK101.out 3; have hfz21_4 := blk_frozen BK101.out 4) | ((with_reducible refine gate_callee (f := 58) rfl ?_); refine goesL_ (some 7) rfl rfl Tq.func58 (by kernel_rfl) rfl #[.agg #[.int .i64 a0_0, .int .i64 a0_1, .int .i64 a0_2, .int .i64 a0_3, .int .i64 a0_4]] rfl (by (try simp only [List.map_toArray, List.map_cons, List.map_nil]); first | done | rfl | (simp only [List.length_drop, List.length_take]; rfl)) ?_; (with_reducible refine (bpdu_Right.calls a0_0 a0_1 a0_2 a0_3 a0_4 false _ A2.out).mono ?_); rintro e w22 ⟨rfl, hb⟩; refine ⟨_, rfl, ?_⟩; have n0_ := Aside0.mk (blk_below (g := gb101) (o := .cells #[.int .i64 a0_0, .int .i64 a0_1, .int .i64 a0_2, .int .i64 a0_3, .int .i64 a0_4] 52 (0, 0)) (by (with_reducible repeat (first | refine blk_drewN ?_ _ | refine blk_drew ?_ | refine blk_alloc ?_ _)); exact BK101.out) hb); have n1_ := Aside0.mk (below_step (by repeat (first | (with_reducible first | exact HB.out | apply below_alloc | apply pw_below_drewN | apply below_drew1 | refine below_set ?_ GE101.out) | exact HB.out)) hb); clear BK101; clear HB; have BK101 := n0_; have HB := n1_; clear n0_ n1_; (try clear hb); (try clear hb2); (try clear hk); (try clear hi)))
    go_ret2
    exact ⟨by first | rfl | (simp [errW_none, errW_some] <;> rfl) | (simp [*, errW_none, errW_some] <;> rfl), by repeat (first | (with_reducible first | exact HB.out | apply below_alloc | apply pw_below_drewN | apply below_drew1 | refine below_set ?_ GE101.out) | exact HB.out)⟩

/-! ### footwaylaw03_alive: function 40 -/
def footwaylaw03_alive.f  : Option (Bool) := (bpdu_Print.f 1 2 3 4 5).bind fun bt111 => (if bt111.2 = 0 then (some (bt111.1.toList == ([0, 0, 1, 0, 0, 0, 2, 0, 3, 4, 5, 241] : List UInt8))) else (some false))
set_option maxHeartbeats 8000000 in
set_option maxRecDepth 100000 in
theorem footwaylaw03_alive.calls  (r : Bool) (w : World) (h : footwaylaw03_alive.f  = some r) :
    Calls Tq.prog 40 #[] w fun e w' => e = .returned (.bool r) ∧ Below w.heap.size w w' := by
  have hu50 := Tq.underlying50
  have hu52 := Tq.underlying52
  have HB := Aside0.mk (Below.refl w.heap.size w)
  have H : ((bpdu_Print.f 1 2 3 4 5).bind fun bt111 => (if bt111.2 = 0 then (some (bt111.1.toList == ([0, 0, 1, 0, 0, 0, 2, 0, 3, 4, 5, 241] : List UInt8))) else (some false))) = some r := h
  clear h
  replace H := Option.bind_eq_some_iff.mp H
  obtain ⟨⟨t111, t112⟩, A10, H⟩ := H
  replace H : (if t112 = 0 then (some (t111.toList == ([0, 0, 1, 0, 0, 0, 2, 0, 3, 4, 5, 241] : List UInt8))) else (some false)) = some r := H
  have A1 := Aside0.mk A10
  clear A10
  by_cases c2 : t112 = 0
  · rw [if_pos c2] at H
    have c2b0 : (t112 == 0) = true := beq_iff_eq.mpr c2
    have c2b1 : (t112 != 0) = false := bne_eq_false_iff_eq.mpr c2
    clear c2
    obtain rfl := Option.some.inj H
    go_enter Tq.func40, Try.ntmps40
    go_wp2_with (first | ((with_reducible refine gate_callee (f := 39) rfl ?_); refine goesL_ (some 6) rfl rfl Tq.func39 (by kernel_rfl) rfl #[.agg #[.int .i64 1, .int .i64 2, .int .i64 3, .int .i64 4, .int .i64 5]] rfl (by (try simp only [List.map_toArray, List.map_cons, List.map_nil]); first | done | rfl | (simp only [List.length_drop, List.length_take]; rfl)) ?_; (with_reducible refine (bpdu_Print.calls 1 2 3 4 5 t111 t112 _ A1.out).mono ?_); rintro e w3 ⟨rfl, hb⟩; refine ⟨_, rfl, ?_⟩; have n0_ := Aside0.mk (below_step (by repeat (first | (with_reducible first | exact HB.out | apply below_alloc | apply pw_below_drewN | apply below_drew1) | exact HB.out)) hb); clear HB; have HB := n0_; clear n0_; (try clear hb); (try clear hb2); (try clear hk); (try clear hi)))
    go_ret
    exact ⟨by first | rfl | (simp [errW_none, errW_some] <;> rfl) | (simp [*, errW_none, errW_some] <;> rfl), by repeat (first | (with_reducible first | exact HB.out | apply below_alloc | apply pw_below_drewN | apply below_drew1) | exact HB.out)⟩
  · rw [if_neg c2] at H
    have c2b0 : (t112 == 0) = false := beq_eq_false_iff_ne.mpr c2
    have c2b1 : (t112 != 0) = true := bne_iff_ne.mpr c2
    obtain rfl := Option.some.inj H
    go_enter Tq.func40, Try.ntmps40
    go_wp2_with (first | ((with_reducible refine gate_callee (f := 39) rfl ?_); refine goesL_ (some 6) rfl rfl Tq.func39 (by kernel_rfl) rfl #[.agg #[.int .i64 1, .int .i64 2, .int .i64 3, .int .i64 4, .int .i64 5]] rfl (by (try simp only [List.map_toArray, List.map_cons, List.map_nil]); first | done | rfl | (simp only [List.length_drop, List.length_take]; rfl)) ?_; (with_reducible refine (bpdu_Print.calls 1 2 3 4 5 t111 t112 _ A1.out).mono ?_); rintro e w4 ⟨rfl, hb⟩; refine ⟨_, rfl, ?_⟩; have n0_ := Aside0.mk (below_step (by repeat (first | (with_reducible first | exact HB.out | apply below_alloc | apply pw_below_drewN | apply below_drew1) | exact HB.out)) hb); clear HB; have HB := n0_; clear n0_; (try clear hb); (try clear hb2); (try clear hk); (try clear hi)))
    go_ret
    exact ⟨by first | rfl | (simp [errW_none, errW_some] <;> rfl) | (simp [*, errW_none, errW_some] <;> rfl), by repeat (first | (with_reducible first | exact HB.out | apply below_alloc | apply pw_below_drewN | apply below_drew1) | exact HB.out)⟩

-- by hand: function 41 (bpdu_Parse)

end Go.Proofs.Ytnikfjfcbpeieaa.PBp
end
section
namespace Go.Proofs.Ytnikfjfcbpeieaa.QF
open Go.RowKit Go.Proofs.Ytnikfjfcbpeieaa.PBa Go.Proofs.Ytnikfjfcbpeieaa.EFrame Go.Proofs.Ytnikfjfcbpeieaa.EMac Go.Proofs.YtnikfjfcbpeieaaW.PrintWords Go.Proofs.YtnikfjfcbpeieaaW.PrintLast Go.Proofs.YtnikfjfcbpeieaaW.PrintMore
set_option linter.unusedVariables false
set_option linter.unusedSimpArgs false

theorem str_of_bytes (s : ByteArray) : strOfNums (bytesOf s) = s := by
  unfold bytesOf
  rw [Lib.Lz.strOfNums_map]

theorem bytes_inj {a b : ByteArray} (h : bytesOf a = bytesOf b) : a = b := by
  rw [← str_of_bytes a, ← str_of_bytes b, h]

theorem bytes_append (a b : ByteArray) : bytesOf (a ++ b) = bytesOf a ++ bytesOf b := by
  simp [bytesOf]

theorem bytes_of_str (l : List Int) (h : ∀ x ∈ l, 0 ≤ x ∧ x ≤ 255) : bytesOf (strOfNums l) = l := by
  have e : (strOfNums l).data.toList = l.map fun n => UInt8.ofNat n.toNat := by
    simp [strOfNums]
  unfold bytesOf
  rw [e, List.map_map]
  conv => rhs; rw [← List.map_id l]
  apply List.map_congr_left
  intro x hx
  have hb := h x hx
  simp only [Function.comp_apply, id_eq, UInt8.toNat_ofNat']
  omega

theorem bytes_ok (s : ByteArray) : ∀ x ∈ bytesOf s, 0 ≤ x ∧ x ≤ 255 := by
  intro x hx
  unfold bytesOf at hx
  obtain ⟨b, _, rfl⟩ := List.mem_map.1 hx
  have := b.toNat_lt
  omega

theorem bytes_extract (s : ByteArray) (i j : Nat) : bytesOf (s.extract i j) = ((bytesOf s).take j).drop i := by
  unfold bytesOf
  rw [← List.map_take, ← List.map_drop]
  congr 1
  simp [ByteArray.data_extract, List.extract_eq_take_drop, List.drop_take]

theorem bytes_len (s : ByteArray) : (bytesOf s).length = s.size := bytesOf_length s

theorem str_size (l : List Int) : (strOfNums l).size = l.length := by
  simp [strOfNums, ByteArray.size]

/-- The bytes of a frame. -/
def P (d c t : Int) (n : ByteArray) : List Int := b6 d ++ (b6 c ++ ([t / 256 % 256, t % 256] ++ bytesOf n))

def alive1 : Option Bool := (frame_Parse.f (⟨#[2, 0, 0, 0, 0, 1, 2, 0, 0, 0, 0, 2, 128, 66]⟩ : ByteArray)).map fun b => b.2.2.2.2 == 0 && (b.1 == 2199023255553 && (b.2.1 == 2199023255554 && (b.2.2.1 == 32834 && (b.2.2.2.1.toList == ([] : List UInt8)))))

theorem class_total (c : Int) : ∃ k e, mac_Class.f c = some (k, e) := by
  unfold mac_Class.f mac_Right.f
  repeat' split
  all_goals simp
  all_goals repeat' split
  all_goals simp

theorem macRight_total (c : Int) : ∃ r, mac_Right.f c = some r := by
  unfold mac_Right.f
  split
  · exact ⟨_, rfl⟩
  · exact ⟨_, rfl⟩

theorem right_total (d c t : Int) (n : ByteArray) : ∃ r, frame_Right.f d c t n = some r := by
  unfold frame_Right.f
  obtain ⟨k, e, hk⟩ := class_total c
  obtain ⟨r, hr⟩ := macRight_total d
  rw [hk, hr]
  simp only [Option.bind_some]
  repeat' split
  all_goals exact ⟨_, rfl⟩

theorem class_right {c : Int} {k : Int} (h : mac_Class.f c = some (k, 0)) : 0 ≤ c ∧ c ≤ 281474976710655 := by
  unfold mac_Class.f mac_Right.f at h
  split at h
  · rename_i h0
    refine ⟨h0, ?_⟩
    by_cases h1 : c ≤ 281474976710655
    · exact h1
    · simp [h1] at h
  · simp at h

theorem right_iff (d c t : Int) (n : ByteArray) : frame_Right.f d c t n = some true ↔ mac_Class.f c = some (0, 0) ∧ (0 ≤ d ∧ d ≤ 281474976710655) ∧ (0 ≤ t ∧ t ≤ 65535) ∧ n.size ≤ 100 := by
  unfold frame_Right.f
  obtain ⟨k, e, hk⟩ := class_total c
  rw [hk]
  simp only [Option.bind_some]
  unfold mac_Right.f
  by_cases h1 : e = 0
  · by_cases h2 : k = 0
    · subst h1 h2
      by_cases h3 : d ≥ 0
      · by_cases h4 : d ≤ 281474976710655
        · by_cases h5 : t ≥ 0
          · by_cases h6 : t ≤ 65535
            · have h3' : 0 ≤ d := h3
              have h5' : 0 ≤ t := h5
              simp [h3, h4, h5, h6, h3', h5']
              omega
            · simp [h3, h4, h5, h6]
          · have : ¬ 0 ≤ t := h5
            simp [h3, h4, h5, this]
        · simp [h3, h4]
      · have : ¬ 0 ≤ d := h3
        simp [h3, this]
    · simp [h1, h2]
  · simp [h1]

theorem b6_ok {a : Int} (h0 : 0 ≤ a) (h1 : a ≤ 281474976710655) : ∀ x ∈ b6 a, 0 ≤ x ∧ x ≤ 255 := by
  intro x hx
  simp only [b6, List.mem_cons, List.not_mem_nil, or_false] at hx
  omega

theorem P_ok {d c t : Int} {n : ByteArray} (hd : 0 ≤ d ∧ d ≤ 281474976710655) (hc : 0 ≤ c ∧ c ≤ 281474976710655) : ∀ x ∈ P d c t n, 0 ≤ x ∧ x ≤ 255 := by
  intro x hx
  simp only [P, List.mem_append] at hx
  rcases hx with hx | hx | hx | hx
  · exact b6_ok hd.1 hd.2 x hx
  · exact b6_ok hc.1 hc.2 x hx
  · simp at hx; omega
  · exact bytes_ok n x hx

theorem num6_cons (s : ByteArray) (x0 x1 x2 x3 x4 x5 : Int) (pre rest : List Int) (h : bytesOf s = pre ++ x0 :: x1 :: x2 :: x3 :: x4 :: x5 :: rest) : num6 s pre.length = x0 * 1099511627776 + x1 * 4294967296 + x2 * 16777216 + x3 * 65536 + x4 * 256 + x5 := by
  have g : ∀ j : Nat, bt s ((pre.length : Int) + j) = (x0 :: x1 :: x2 :: x3 :: x4 :: x5 :: rest).getD j 0 := by
    intro j
    rw [← rd_bytesOf, h]
    unfold rd
    rw [show ((pre.length : Int) + j).toNat = pre.length + j from by omega]
    simp [List.getD_eq_getElem?_getD, List.getElem?_append_right]
  have g0 := g 0
  have g1 := g 1
  have g2 := g 2
  have g3 := g 3
  have g4 := g 4
  have g5 := g 5
  simp only [Int.natCast_zero, Int.add_zero, List.getD_cons_zero, List.getD_cons_succ] at g0 g1 g2 g3 g4 g5
  unfold num6
  rw [g0]
  erw [g1, g2, g3, g4, g5]

theorem tnum_cons (s : ByteArray) (x y : Int) (pre rest : List Int) (hp : pre.length = 12) (h : bytesOf s = pre ++ x :: y :: rest) : tnum s = x * 256 + y := by
  have g : ∀ j : Nat, bt s ((12 : Int) + j) = (x :: y :: rest).getD j 0 := by
    intro j
    rw [← rd_bytesOf, h]
    unfold rd
    rw [show ((12 : Int) + j).toNat = pre.length + j from by omega]
    simp [List.getD_eq_getElem?_getD, List.getElem?_append_right]
  have g0 := g 0
  have g1 := g 1
  simp only [Int.natCast_zero, Int.add_zero, List.getD_cons_zero, List.getD_cons_succ] at g0 g1
  unfold tnum
  rw [g0]
  erw [g1]

theorem P_len (d c t : Int) (n : ByteArray) : (P d c t n).length = 14 + n.size := by
  simp [P, b6, bytes_len]; omega

theorem b6_sum {a : Int} (h0 : 0 ≤ a) (h1 : a ≤ 281474976710655) : a / 1099511627776 * 1099511627776 + a / 4294967296 % 256 * 4294967296 + a / 16777216 % 256 * 16777216 + a / 65536 % 256 * 65536 + a / 256 % 256 * 256 + a % 256 = a := by
  omega

theorem Parse_P {d c t : Int} {n : ByteArray} (hr : frame_Right.f d c t n = some true) : frame_Parse.f (strOfNums (P d c t n)) = some (d, c, t, n, 0) := by
  obtain ⟨hc, hd, ht, hn⟩ := (right_iff _ _ _ _).1 hr
  have hc' := class_right hc
  have hb : bytesOf (strOfNums (P d c t n)) = P d c t n := bytes_of_str _ (P_ok hd hc')
  have hz : (strOfNums (P d c t n)).size = 14 + n.size := by rw [str_size, P_len]
  have e0 : num6 (strOfNums (P d c t n)) 0 = d := by
    have := num6_cons (strOfNums (P d c t n)) _ _ _ _ _ _ [] _ (by rw [hb]; rfl)
    simp only [List.length_nil, Int.natCast_zero] at this
    rw [this]; exact b6_sum hd.1 hd.2
  have e1 : num6 (strOfNums (P d c t n)) 6 = c := by
    have := num6_cons (strOfNums (P d c t n)) _ _ _ _ _ _ (b6 d) _ (by rw [hb]; rfl)
    have e : num6 (strOfNums (P d c t n)) 6 = _ := this
    rw [e]; exact b6_sum hc'.1 hc'.2
  have e2 : tnum (strOfNums (P d c t n)) = t := by
    have := tnum_cons (strOfNums (P d c t n)) _ _ (b6 d ++ b6 c) _ rfl (by rw [hb]; rfl)
    rw [this]; omega
  have e3 : (strOfNums (P d c t n)).extract 14 (strOfNums (P d c t n)).size = n := by
    apply bytes_inj
    rw [bytes_extract, hb, hz, ← P_len d c t n, List.take_length]
    rfl
  unfold frame_Parse.f
  rw [e0, e1, e2, e3, hr]
  rw [if_neg (by omega), if_neg (by omega)]
  rfl

theorem six {l : List Int} (h : 14 ≤ l.length) : ∃ x0 x1 x2 x3 x4 x5 y0 y1 y2 y3 y4 y5 t0 t1 rest, l = x0 :: x1 :: x2 :: x3 :: x4 :: x5 :: y0 :: y1 :: y2 :: y3 :: y4 :: y5 :: t0 :: t1 :: rest := by
  rcases l with _ | ⟨x0, _ | ⟨x1, _ | ⟨x2, _ | ⟨x3, _ | ⟨x4, _ | ⟨x5, _ | ⟨y0, _ | ⟨y1, _ | ⟨y2, _ | ⟨y3, _ | ⟨y4, _ | ⟨y5, _ | ⟨t0, _ | ⟨t1, rest⟩⟩⟩⟩⟩⟩⟩⟩⟩⟩⟩⟩⟩⟩ <;> first | (exact ⟨_, _, _, _, _, _, _, _, _, _, _, _, _, _, _, rfl⟩) | (simp at h)

theorem b6_num {x0 x1 x2 x3 x4 x5 : Int} (h0 : 0 ≤ x0 ∧ x0 ≤ 255) (h1 : 0 ≤ x1 ∧ x1 ≤ 255) (h2 : 0 ≤ x2 ∧ x2 ≤ 255) (h3 : 0 ≤ x3 ∧ x3 ≤ 255) (h4 : 0 ≤ x4 ∧ x4 ≤ 255) (h5 : 0 ≤ x5 ∧ x5 ≤ 255) :
    b6 (x0 * 1099511627776 + x1 * 4294967296 + x2 * 16777216 + x3 * 65536 + x4 * 256 + x5) = [x0, x1, x2, x3, x4, x5] := by
  unfold b6
  simp only [List.cons.injEq, and_true]
  refine ⟨by omega, by omega, by omega, by omega, by omega, by omega⟩

theorem P_parse (s : ByteArray) (h : 14 ≤ s.size) : strOfNums (P (num6 s 0) (num6 s 6) (tnum s) (s.extract 14 s.size)) = s := by
  obtain ⟨x0, x1, x2, x3, x4, x5, y0, y1, y2, y3, y4, y5, t0, t1, rest, hl⟩ := six (l := bytesOf s) (by rw [bytes_len]; exact h)
  have ok := bytes_ok s
  rw [hl] at ok
  have e0 : num6 s 0 = _ := num6_cons s x0 x1 x2 x3 x4 x5 [] _ hl
  have e1 : num6 s 6 = _ := num6_cons s y0 y1 y2 y3 y4 y5 [x0, x1, x2, x3, x4, x5] _ hl
  have e2 := tnum_cons s t0 t1 [x0, x1, x2, x3, x4, x5, y0, y1, y2, y3, y4, y5] _ rfl hl
  have g0 := b6_num (ok x0 (by simp)) (ok x1 (by simp)) (ok x2 (by simp)) (ok x3 (by simp)) (ok x4 (by simp)) (ok x5 (by simp))
  have g1 := b6_num (ok y0 (by simp)) (ok y1 (by simp)) (ok y2 (by simp)) (ok y3 (by simp)) (ok y4 (by simp)) (ok y5 (by simp))
  have k0 := ok t0 (by simp)
  have k1 := ok t1 (by simp)
  unfold P
  rw [e0, e1, e2, g0, g1, bytes_extract, ← bytes_len, List.take_length, hl]
  rw [show (t0 * 256 + t1) / 256 % 256 = t0 from by omega, show (t0 * 256 + t1) % 256 = t1 from by omega]
  conv => rhs; rw [← str_of_bytes s, hl]
  rfl

/-- What Parse answers: a frame that may be, out of its bytes, or nothing. -/
theorem Parse_cases (s : ByteArray) : (∃ d c t n, frame_Parse.f s = some (d, c, t, n, 0) ∧ frame_Right.f d c t n = some true ∧ strOfNums (P d c t n) = s ∧ 14 ≤ s.size ∧ s.size ≤ 114) ∨ ∃ e, e ≠ 0 ∧ frame_Parse.f s = some (0, 0, 0, ⟨#[]⟩, e) := by
  unfold frame_Parse.f
  by_cases h0 : s.size < 14
  · rw [if_pos h0]; exact .inr ⟨7, by decide, rfl⟩
  · rw [if_neg h0]
    by_cases h1 : 114 < s.size
    · rw [if_pos h1]; exact .inr ⟨8, by decide, rfl⟩
    · rw [if_neg h1]
      obtain ⟨r, hr⟩ := right_total (num6 s 0) (num6 s 6) (tnum s) (s.extract 14 s.size)
      rw [hr]
      cases r
      · exact .inr ⟨10, by decide, rfl⟩
      · exact .inl ⟨_, _, _, _, rfl, hr, P_parse s (by omega), by omega, by omega⟩

theorem joined_step (k : Nat) (x : List Int) (l : List ByteArray) (i j : Int) (hj : j = i + 1) (h0 : 0 ≤ i) (h1 : i < l.length) (hl : l.length ≤ 10) (hx : x.length ≤ 10000) (hs : (rdOf ByteArray.empty l i).size ≤ 10000) :
    frame_joined.l0 (k + 1) x l (l.length : Int) i = frame_joined.l0 k (x ++ bytesOf (rdOf ByteArray.empty l i)) l (l.length : Int) j := by
  subst hj
  rw [frame_joined.l0, if_pos h1, if_pos h0, if_pos h1, if_pos (by omega)]
  rw [show wrap64 (i + 1) = i + 1 from by unfold wrap64; omega]

theorem joined_eq (k : Nat) (a b c d : ByteArray) (ha : a.size ≤ 1000) (hb : b.size ≤ 1000) (hc : c.size ≤ 1000) (hd : d.size ≤ 1000) :
    frame_joined.f (k + 5) [a, b, c, d] = some (strOfNums (bytesOf a ++ (bytesOf b ++ (bytesOf c ++ bytesOf d)))) := by
  unfold frame_joined.f
  rw [joined_step (k + 4) _ _ 0 1 rfl (by decide) (by simp) (by simp) (by simp) (by exact Nat.le_trans ha (by decide))]
  rw [joined_step (k + 3) _ _ 1 2 rfl (by decide) (by simp) (by simp) (by simp [bytes_len, rdOf]; omega) (by exact Nat.le_trans hb (by decide))]
  rw [joined_step (k + 2) _ _ 2 3 rfl (by decide) (by simp) (by simp) (by simp [bytes_len, rdOf]; omega) (by exact Nat.le_trans hc (by decide))]
  rw [joined_step (k + 1) _ _ 3 4 rfl (by decide) (by simp) (by simp) (by simp [bytes_len, rdOf]; omega) (by exact Nat.le_trans hd (by decide))]
  rw [frame_joined.l0, if_neg (by simp)]
  simp [rdOf, List.append_assoc]

theorem few_eq (d c t : Int) (n : ByteArray) : footwaylaw02_few.f d c t n = some (d, c, t, n.extract 0 (min n.size 130)) := by
  unfold footwaylaw02_few.f
  have e : mn (n.size : Int) 130 = ((min n.size 130 : Nat) : Int) := by unfold mn; split <;> omega
  rw [e, if_pos (by omega), if_pos (by omega)]
  rfl
end Go.Proofs.Ytnikfjfcbpeieaa.QF
end
section
namespace Go.Proofs.Ytnikfjfcbpeieaa.QB
open Go.RowKit Go.Proofs.Ytnikfjfcbpeieaa.PBq Go.Proofs.Ytnikfjfcbpeieaa.PBp Go.Proofs.Ytnikfjfcbpeieaa.EBp Go.Proofs.Ytnikfjfcbpeieaa.EFrame Go.Proofs.Ytnikfjfcbpeieaa.QF Go.Proofs.YtnikfjfcbpeieaaW.PrintWords Go.Proofs.YtnikfjfcbpeieaaW.PrintLast Go.Proofs.YtnikfjfcbpeieaaW.PrintMore
set_option linter.unusedVariables false
set_option linter.unusedSimpArgs false

structure Rt (r c b p a : Int) : Prop where
  r : 0 ≤ r ∧ r ≤ 65535
  c : 0 ≤ c ∧ c ≤ 2147483647
  b : 0 ≤ b ∧ b ≤ 65535
  p : 0 ≤ p ∧ p ≤ 7
  a : 0 ≤ a ∧ a ≤ 255
instance (r c b p a : Int) : Decidable (Rt r c b p a) :=
  decidable_of_iff ((0 ≤ r ∧ r ≤ 65535) ∧ (0 ≤ c ∧ c ≤ 2147483647) ∧ (0 ≤ b ∧ b ≤ 65535) ∧ (0 ≤ p ∧ p ≤ 7) ∧ (0 ≤ a ∧ a ≤ 255)) ⟨fun ⟨h1, h2, h3, h4, h5⟩ => ⟨h1, h2, h3, h4, h5⟩, fun h => ⟨h.r, h.c, h.b, h.p, h.a⟩⟩
theorem in_eq (n m : Int) : bpdu_in.f n m = some (decide (0 ≤ n ∧ n ≤ m)) := by
  unfold bpdu_in.f
  by_cases h : n ≥ 0
  · rw [if_pos h]
    have : 0 ≤ n := h
    simp [this]
  · rw [if_neg h]
    have : ¬ 0 ≤ n := h
    simp [this]
theorem right_eq (r c b p a : Int) : bpdu_Right.f r c b p a = some (decide (Rt r c b p a)) := by
  unfold bpdu_Right.f
  simp only [in_eq, Option.bind_some]
  by_cases h1 : 0 ≤ r ∧ r ≤ 65535
  · by_cases h2 : 0 ≤ b ∧ b ≤ 65535
    · by_cases h3 : 0 ≤ c ∧ c ≤ 2147483647
      · by_cases h4 : 0 ≤ p ∧ p ≤ 7
        · by_cases h5 : 0 ≤ a ∧ a ≤ 255
          · have : Rt r c b p a := ⟨h1, h3, h2, h4, h5⟩
            simp [h1, h2, h3, h4, h5, this]
          · have : ¬ Rt r c b p a := fun h => h5 h.a
            simp [h1, h2, h3, h4, h5, this]
        · have : ¬ Rt r c b p a := fun h => h4 h.p
          simp [h1, h2, h3, h4, this]
      · have : ¬ Rt r c b p a := fun h => h3 h.c
        simp [h1, h2, h3, this]
    · have : ¬ Rt r c b p a := fun h => h2 h.b
      simp [h1, h2, this]
  · have : ¬ Rt r c b p a := fun h => h1 h.r
    simp [h1, this]
/-- The eleven bytes, and the twelfth. -/
def L11 (r c b p a : Int) : List Int := [0, (r / 256) % 256, r % 256, (c / 16777216) % 256, (c / 65536) % 256, (c / 256) % 256, c % 256, (b / 256) % 256, b % 256, p % 256, a % 256]
def ck (r c b p a : Int) : Int := (-((L11 r c b p a).sum % 256)) % 256
def L12 (r c b p a : Int) : List Int := L11 r c b p a ++ [ck r c b p a]
theorem L11_ok (r c b p a : Int) : ∀ x ∈ L11 r c b p a, 0 ≤ x ∧ x < 256 := by
  intro x hx
  simp only [L11, List.mem_cons, List.not_mem_nil, or_false] at hx
  rcases hx with rfl | rfl | rfl | rfl | rfl | rfl | rfl | rfl | rfl | rfl | rfl <;> omega
theorem L12_ok (r c b p a : Int) : ∀ x ∈ L12 r c b p a, 0 ≤ x ∧ x < 256 := by
  intro x hx
  rcases List.mem_append.1 hx with hx | hx
  · exact L11_ok r c b p a x hx
  · simp only [List.mem_singleton] at hx
    subst hx
    unfold ck
    omega
theorem L12_le (r c b p a : Int) : ∀ x ∈ L12 r c b p a, 0 ≤ x ∧ x ≤ 255 := fun x hx => by have := L12_ok r c b p a x hx; omega
theorem L12_sum (r c b p a : Int) : (L12 r c b p a).sum % 256 = 0 := by
  unfold L12
  rw [List.sum_append]
  show ((L11 r c b p a).sum + (ck r c b p a + 0)) % 256 = 0
  unfold ck
  generalize (L11 r c b p a).sum = s
  omega
theorem L12_len (r c b p a : Int) : (L12 r c b p a).length = 12 := rfl
theorem Print_eq (r c b p a : Int) : bpdu_Print.f r c b p a = if Rt r c b p a then some (strOfNums (L12 r c b p a), 0) else some (⟨#[]⟩, 1) := by
  unfold bpdu_Print.f
  rw [right_eq]
  simp only [Option.bind_some]
  by_cases h : Rt r c b p a
  · have hs : bpdu_sum.f (L11 r c b p a) = some ((L11 r c b p a).sum % 256) := by
      unfold bpdu_sum.f
      rw [if_pos ⟨L11_ok r c b p a, by show (11 : Nat) ≤ 1000000000; omega⟩]
    rw [if_pos h, if_pos (decide_eq_true h)]
    show (bpdu_sum.f (L11 r c b p a)).bind _ = _
    rw [hs]
    simp only [Option.bind_some]
    split
    · rfl
    · rename_i hn
      exact absurd (show (11 : Nat) < 140737488355328 by omega) hn
  · rw [if_neg h, if_neg (by simp [h])]
theorem bt_list (s : ByteArray) (i : Nat) : bt s i = (bytesOf s).getD i 0 := by
  rw [← rd_bytesOf]
  unfold rd
  simp
theorem nums_eq (s : ByteArray) (h : s.size = 12) : EFrame.nums s 0 12 = bytesOf s := by
  unfold EFrame.nums bytesOf
  rw [List.drop_zero, List.take_of_length_le (by simp [h])]
/-- What Parse makes of twelve bytes. -/
def PL (x0 x1 x2 x3 x4 x5 x6 x7 x8 x9 x10 x11 : Int) : Int × Int × Int × Int × Int × Int :=
  if (x0 + (x1 + (x2 + (x3 + (x4 + (x5 + (x6 + (x7 + (x8 + (x9 + (x10 + (x11 + 0)))))))))))) % 256 = 0 then
    (if x0 = 0 ∧ Rt (x1 * 256 + x2) (x3 * 16777216 + x4 * 65536 + x5 * 256 + x6) (x7 * 256 + x8) x9 x10 then (x1 * 256 + x2, x3 * 16777216 + x4 * 65536 + x5 * 256 + x6, x7 * 256 + x8, x9, x10, 0) else (0, 0, 0, 0, 0, 10))
  else (0, 0, 0, 0, 0, 9)
theorem Parse_list (s : ByteArray) (x0 x1 x2 x3 x4 x5 x6 x7 x8 x9 x10 x11 : Int) (h : bytesOf s = [x0, x1, x2, x3, x4, x5, x6, x7, x8, x9, x10, x11]) : bpdu_Parse.f s = some (PL x0 x1 x2 x3 x4 x5 x6 x7 x8 x9 x10 x11) := by
  have hz : s.size = 12 := by rw [← bytes_len, h]; rfl
  have b : ∀ i : Nat, bt s i = [x0, x1, x2, x3, x4, x5, x6, x7, x8, x9, x10, x11].getD i 0 := fun i => by rw [bt_list, h]
  have b0 : bt s 0 = x0 := b 0
  have b1 : bt s 1 = x1 := b 1
  have b2 : bt s 2 = x2 := b 2
  have b3 : bt s 3 = x3 := b 3
  have b4 : bt s 4 = x4 := b 4
  have b5 : bt s 5 = x5 := b 5
  have b6 : bt s 6 = x6 := b 6
  have b7 : bt s 7 = x7 := b 7
  have b8 : bt s 8 = x8 := b 8
  have b9 : bt s 9 = x9 := b 9
  have b10 : bt s 10 = x10 := b 10
  unfold bpdu_Parse.f
  rw [if_neg (by omega), if_neg (by omega), nums_eq s hz, h]
  simp only [n1, n2, n4, Int.reduceAdd, b0, b1, b2, b3, b4, b5, b6, b7, b8, b9, b10, right_eq, Option.bind_some, List.sum_cons, List.sum_nil]
  unfold PL
  by_cases hs : (x0 + (x1 + (x2 + (x3 + (x4 + (x5 + (x6 + (x7 + (x8 + (x9 + (x10 + (x11 + 0)))))))))))) % 256 = 0
  · rw [if_pos hs, if_pos hs]
    by_cases h0 : x0 = 0
    · rw [if_pos h0]
      by_cases hr : Rt (x1 * 256 + x2) (x3 * 16777216 + x4 * 65536 + x5 * 256 + x6) (x7 * 256 + x8) x9 x10
      · rw [if_pos (decide_eq_true hr), if_pos ⟨h0, hr⟩]
      · rw [if_neg (by simp [hr]), if_neg (fun h => hr h.2)]
    · rw [if_neg h0, if_neg (fun h => h0 h.1)]
  · rw [if_neg hs, if_neg hs]
theorem Parse_Print {r c b p a : Int} (h : Rt r c b p a) : bpdu_Parse.f (strOfNums (L12 r c b p a)) = some (r, c, b, p, a, 0) := by
  have hl : bytesOf (strOfNums (L12 r c b p a)) = L12 r c b p a := bytes_of_str _ (L12_le r c b p a)
  rw [Parse_list _ _ _ _ _ _ _ _ _ _ _ _ _ (show bytesOf (strOfNums (L12 r c b p a)) = [0, (r / 256) % 256, r % 256, (c / 16777216) % 256, (c / 65536) % 256, (c / 256) % 256, c % 256, (b / 256) % 256, b % 256, p % 256, a % 256, ck r c b p a] from hl)]
  have hs := L12_sum r c b p a
  have h1 := h.r
  have h2 := h.c
  have h3 := h.b
  have h4 := h.p
  have h5 := h.a
  have e1 : (r / 256) % 256 * 256 + r % 256 = r := by omega
  have e2 : (c / 16777216) % 256 * 16777216 + (c / 65536) % 256 * 65536 + (c / 256) % 256 * 256 + c % 256 = c := by omega
  have e3 : (b / 256) % 256 * 256 + b % 256 = b := by omega
  have e4 : p % 256 = p := by omega
  have e5 : a % 256 = a := by omega
  unfold PL
  split
  · rw [e1, e2, e3, e4, e5, if_pos ⟨rfl, h⟩]
  · rename_i hn
    exact absurd hs hn
theorem tl (s : ByteArray) : s.toList = s.data.toList := by
  obtain ⟨⟨l⟩⟩ := s
  rw [show (ByteArray.mk { toList := l }) = ByteArray.mk l.toArray from rfl, ByteArray.toList_mk]
theorem tl_inj {s t : ByteArray} (h : s.toList = t.toList) : s = t := by
  rw [tl, tl] at h
  exact ByteArray.ext (Array.toList_inj.1 h)
theorem alive_eq : footwaylaw03_alive.f = some true := by
  unfold footwaylaw03_alive.f
  rw [Print_eq, if_pos (by decide)]
  simp only [Option.bind_some, if_true, tl]
  decide
theorem sum_set (l : List Int) (n : Nat) (y : Int) (h : n < l.length) : (l.set n y).sum + l.getD n 0 = l.sum + y := by
  induction l generalizing n with
  | nil => simp at h
  | cons x l ih =>
    rcases n with _ | n
    · simp; omega
    · have := ih n (by simpa using h)
      simp only [List.set_cons_succ, List.sum_cons, List.getD_cons_succ]
      omega
theorem Parse_sum (s : ByteArray) (h : s.size = 12) (hs : ¬ (bytesOf s).sum % 256 = 0) : bpdu_Parse.f s = some (0, 0, 0, 0, 0, 9) := by
  unfold bpdu_Parse.f
  rw [if_neg (by omega), if_neg (by omega), nums_eq s h, if_neg hs]
end Go.Proofs.Ytnikfjfcbpeieaa.QB
end
section
-- Laid by a program of this session out of the translation; Lean checks it.
namespace Go.Proofs.Ytnikfjfcbpeieaa.PBp
open Go.RowKit Go.Proofs.YtnikfjfcbpeieaaW.PrintWords Go.Proofs.YtnikfjfcbpeieaaW.PrintLast Go.Proofs.YtnikfjfcbpeieaaW.PrintMore
attribute [local go_sem] max2_int min2_int max_two min_two max_three min_three max_four min_four   -- for this text's walks alone
set_option linter.unusedVariables false
set_option linter.unusedSimpArgs false

theorem eqA50 (d : Nat) (w : World) (x0 y0 : Int) (x1 y1 : Int) (x2 y2 : Int) (x3 y3 : Int) :
    (Op.equalIn (d + 2) 50 (.agg #[.int .i64 x0, .int .i64 x1, .int .i64 x2, .int .i64 x3]) (.agg #[.int .i64 y0, .int .i64 y1, .int .i64 y2, .int .i64 y3])).run Tq.prog w = .ok (x0 == y0 && (x1 == y1 && (x2 == y2 && (x3 == y3)))) w := by
  refine eqA_of Tq.underlying50 (by kernel_rfl) ?_
  refine eqf_cons (by rfl) (by go_simp; rfl) (by go_simp; rfl) (by go_simp) ?_
  refine eqf_cons (by rfl) (by go_simp; rfl) (by go_simp; rfl) (by go_simp) ?_
  refine eqf_cons (by rfl) (by go_simp; rfl) (by go_simp; rfl) (by go_simp) ?_
  exact eqf_last (by rfl) (by go_simp; rfl) (by go_simp; rfl) (by go_simp)
theorem eqA52 (d : Nat) (w : World) (x0 y0 : Int) (x1 y1 : Int) (x2 y2 : Int) (x3 y3 : Int) (x4 y4 : Int) :
    (Op.equalIn (d + 3) 52 (.agg #[.int .i64 x0, .int .i64 x1, .int .i64 x2, .int .i64 x3, .int .i64 x4]) (.agg #[.int .i64 y0, .int .i64 y1, .int .i64 y2, .int .i64 y3, .int .i64 y4])).run Tq.prog w = .ok ((x0 == y0 && (x1 == y1 && (x2 == y2 && (x3 == y3)))) && (x4 == y4)) w := by
  refine eqA_of Tq.underlying52 (by kernel_rfl) ?_
  refine eqf_cons (by rfl) (by go_simp) (by go_simp) (eqA50 (d + 0) w _ _ _ _ _ _ _ _) ?_
  exact eqf_last (by rfl) (by go_simp; rfl) (by go_simp; rfl) (by go_simp)
end Go.Proofs.Ytnikfjfcbpeieaa.PBp
end
