/- What a worker does at its end: (*sync.WaitGroup).Done. Written by mkwg.py. -/
import Derived.Test.YtnikfjfcbpeieaaMXa
section
namespace Go.Proofs.Ytnikfjfcbpeieaa.Lk
open Go Go.Conc Go.RowKit
open Go.ConcR (KK wgBlock WgAt stA smA rd wr mk)
open Go.ConcR.Gen
set_option linter.unusedVariables false
set_option linter.unusedSimpArgs false

set_option maxRecDepth 100000 in
set_option maxHeartbeats 8000000 in
theorem done_walk {R : World → World → Prop} {Wg : Nat} (hR : ∀ w w₁, Live Wg w → R w w₁ → Live Wg w₁) {c : Frame} {cs : List Frame} (hcm : c.mode = .returning) (hT : Qs Try.prog 0 (G c cs)) :
    Gs Try.prog false R Sil (SR R Wg) (Live Wg) (G ((baseD 75).at ⟨#[.pointer (some ⟨Wg, 0, none⟩), undef, undef, undef], []⟩ [.code (Try.f75.body.getD .skip)]) (c :: cs)) := by
  have U : Rule R Sil (Live Wg) := ⟨hR, fun _ _ => ⟨rfl, rfl⟩⟩
  have hcell : ∀ w, Live Wg w → ∃ v, w.cell? ⟨Wg, 0, none⟩ = some v := fun w ⟨_, _, h⟩ => ⟨_, h.cellSt⟩
  simp only [Try.f75, Option.getD_some]
  repeat (first
    | refine Gs.seq U ?_
    | refine Gs.regionEnd U ?_
    | (refine Gs.region U ?_; simp only [List.size_toArray, List.length_cons, List.length_nil, Nat.reduceAdd, Nat.zero_add, List.range, List.range.loop])
    | (refine Gs.cond true U rfl ?_; simp only [if_true, if_false, Bool.false_eq_true, ↓reduceIte])
    | (refine Gs.call U rfl rfl (by k_ne) rfl Try.func73 nm73 rfl ?_; walk_nrmf Try.f73)
    | (apply Gs.val U rfl rfl (by k_ne); (case hr => intro w hw; go_simp; (try w_num); (try rfl)); (case he => intro w hw; simp [go_sem]); walk_nrm; (try w_num))
    | (apply Gs.val U rfl rfl (by k_ne); (case hr => intro w hw; obtain ⟨v, hc⟩ := hcell w hw; have hcv := run_convert_to_unsafe (P := Try.prog) Try.underlying122 Try.underlying124 room108 hc; go_simp; rfl); (case he => intro w hw; obtain ⟨v, hc⟩ := hcell w hw; have hce := fun es => events_convert_to_unsafe (P := Try.prog) Try.underlying122 Try.underlying124 room108 hc es; simp [go_sem, hce]); walk_nrm))
  refine Gs.stop U fun w hw => ⟨rfl, _, stepG_markAt .releaseMerge (by simp) rfl rfl (by k_ne) rfl Try.func92 x92_n x92_b x92_x x92_f (by simp [Act.eval, stA]), Gs.runs (F := Live Wg) ?_ hw⟩
  walk_nrm
  repeat (first
    | refine Gs.seq U ?_
    | refine Gs.regionEnd U ?_
    | (refine Gs.region U ?_; simp only [List.size_toArray, List.length_cons, List.length_nil, Nat.reduceAdd, Nat.zero_add, List.range, List.range.loop]))
  refine Gs.stop U fun w hw => ⟨rfl, _, stepG_mark0 .disable (by simp) rfl rfl (by k_ne) rfl Try.func93 x93_n x93_b x93_x x93_f, Gs.runs (F := Live Wg) ?_ hw⟩
  walk_nrm
  repeat (first
    | refine Gs.seq U ?_
    | refine Gs.skip U ?_
    | refine Gs.regionEnd U ?_
    | (refine Gs.region U ?_; simp only [List.size_toArray, List.length_cons, List.length_nil, Nat.reduceAdd, Nat.zero_add, List.range, List.range.loop])
    | (refine Gs.cond false U rfl ?_; simp only [if_true, if_false, Bool.false_eq_true, ↓reduceIte])
    | (refine Gs.go U rfl (fun w hw => stepG_entry_pure (.bool false) rfl rfl (by k_ne) rfl Try.func95 x95_n x95_b x95_x x95_f) ?_; walk_nrm)
    | (refine Gs.go U rfl (fun w hw => stepG_defer rfl rfl (by k_ne) rfl) ?_; walk_nrm)
    | (refine Gs.call U rfl rfl (by k_ne) rfl Try.func99 nm99 rfl ?_; walk_nrmf Try.f99)
    | (apply Gs.val U rfl rfl (by k_ne); (case hr => intro w hw; go_simp; (try w_num); (try rfl)); (case he => intro w hw; simp [go_sem]); walk_nrm; (try w_num)))
  refine Gs.stop U fun w hw => ⟨rfl, fun v wt hv hwt hat => ?_⟩
  rcases (show v = 0 ∨ v = 1 by omega) with rfl | rfl <;> rcases (show wt = 0 ∨ wt = 1 by omega) with rfl | rfl
  · have hat' : WgAt 108 Wg w 4294967296 0 := by simpa [KK] using hat
    refine ⟨_, (stepG_add_atomic (v := 4294967296) rfl rfl (by k_ne) rfl Try.func118 x118_n x118_b x118_x .u64 x118_f rfl rfl hat'.cellSt (hat'.thaw 0)).trans (by rfl), fun h => absurd h (by omega), fun _ => ?_⟩
    clear hat hat'
    walk_nrm
    try w_num
    repeat (first
      | refine Qs.seq ?_
      | refine Qs.skip ?_
      | refine Qs.regionEnd ?_
      | (refine Qs.region ?_; simp only [List.size_toArray, List.length_cons, List.length_nil, Nat.reduceAdd, Nat.zero_add, List.range, List.range.loop])
      | (refine Qs.cond true rfl ?_; simp only [if_true, if_false, Bool.false_eq_true, ↓reduceIte])
      | (refine Qs.cond false rfl ?_; simp only [if_true, if_false, Bool.false_eq_true, ↓reduceIte])
      | (refine Qs.unwanted rfl rfl ?_; walk_nrm)
      | (refine Qs.leave1 rfl rfl Try.func99 rfl ?_; walk_nrm)
      | (apply Qs.val rfl rfl (by k_ne); (case hr => intro w; go_simp; (try w_num); (try rfl)); (case he => intro w; simp [go_sem]); walk_nrm; (try w_num))
      | (refine Qs.enable rfl ?_)
      | (refine Qs.leave0 rfl rfl Try.func73 rfl ?_; walk_nrm)
      | (refine Qs.leaveD rfl rfl Try.func75 rfl hcm ?_)
      | refine Qs.end_ ?_
      | refine Qs.ret ?_)
    exact hT
  · have hat' : WgAt 108 Wg w 4294967297 0 := by simpa [KK] using hat
    refine ⟨_, (stepG_add_atomic (v := 4294967297) rfl rfl (by k_ne) rfl Try.func118 x118_n x118_b x118_x .u64 x118_f rfl rfl hat'.cellSt (hat'.thaw 0)).trans (by rfl), fun _ => Gs.runs (F := Live Wg) ?_ (live_st hw _), fun h => absurd (And.intro rfl rfl) h⟩
    clear hat hat'
    walk_nrm
    try w_num
    repeat (first
      | refine Gs.seq U ?_
      | refine Gs.skip U ?_
      | refine Gs.regionEnd U ?_
      | (refine Gs.region U ?_; simp only [List.size_toArray, List.length_cons, List.length_nil, Nat.reduceAdd, Nat.zero_add, List.range, List.range.loop])
      | (refine Gs.cond false U rfl ?_; simp only [if_true, if_false, Bool.false_eq_true, ↓reduceIte])
      | (refine Gs.unwanted U rfl rfl ?_; walk_nrm)
      | (refine Gs.call U rfl rfl (by k_ne) rfl Try.func101 nm101 rfl ?_; walk_nrmf Try.f101)
      | (refine Gs.leave1 U rfl rfl Try.func99 rfl ?_; walk_nrm)
      | (apply Gs.val U rfl rfl (by k_ne); (case hr => intro w hw; go_simp; (try w_num); (try rfl)); (case he => intro w hw; simp [go_sem]); walk_nrm; (try w_num))
      | refine Gs.ret U ?_)
    refine Gs.stop U fun w hw => ⟨rfl, fun hat => ⟨_, stepG_load_atomic (v := 1) rfl rfl (by k_ne) rfl Try.func119 x119_n x119_b x119_x .u64 x119_f rfl hat.cellSt, Gs.runs (F := Live Wg) ?_ hw⟩⟩
    walk_nrm
    repeat (first
      | refine Gs.seq U ?_
      | refine Gs.skip U ?_
      | refine Gs.regionEnd U ?_
      | (refine Gs.region U ?_; simp only [List.size_toArray, List.length_cons, List.length_nil, Nat.reduceAdd, Nat.zero_add, List.range, List.range.loop])
      | (refine Gs.cond false U rfl ?_; simp only [if_true, if_false, Bool.false_eq_true, ↓reduceIte])
      | (refine Gs.call U rfl rfl (by k_ne) rfl Try.func102 nm102 rfl ?_; walk_nrmf Try.f102)
      | (refine Gs.leave1 U rfl rfl Try.func101 rfl ?_; walk_nrm)
      | (apply Gs.val U rfl rfl (by k_ne); (case hr => intro w hw; go_simp; (try w_num); (try rfl)); (case he => intro w hw; simp [go_sem]); walk_nrm; (try w_num))
      | refine Gs.ret U ?_)
    refine Gs.stop U fun w hw => ⟨rfl, fun hat => ⟨_, (stepG_store_atomic rfl rfl (by k_ne) rfl Try.func120 x120_n x120_b x120_x x120_f rfl rfl hat.cellSt (hat.thaw 0)).trans (by rfl), Gs.runs (F := Live Wg) ?_ (live_st hw _)⟩⟩
    walk_nrm
    repeat (first
      | refine Gs.seq U ?_
      | refine Gs.block U ?_
      | refine Gs.loop U ?_
      | refine Gs.skip U ?_
      | refine Gs.regionEnd U ?_
      | (refine Gs.region U ?_; simp only [List.size_toArray, List.length_cons, List.length_nil, Nat.reduceAdd, Nat.zero_add, List.range, List.range.loop])
      | (refine Gs.cond true U rfl ?_; simp only [if_true, if_false, Bool.false_eq_true, ↓reduceIte])
      | (refine Gs.cond false U rfl ?_; simp only [if_true, if_false, Bool.false_eq_true, ↓reduceIte])
      | (refine Gs.leave0 U rfl rfl Try.func102 rfl ?_; walk_nrm)
      | (apply Gs.val U rfl rfl (by k_ne); (case hr => intro w hw; go_simp; (try w_num); (try rfl)); (case he => intro w hw; simp [go_sem]); walk_nrm; (try w_num))
      | refine Gs.end_ U ?_)
    refine Gs.stop U fun w hw => ⟨rfl, mayWake_entry rfl rfl Try.func104 x104_b, fun hat => ⟨_, (stepG_semrelease (n := 0) rfl rfl (by k_ne) rfl Try.func104 x104_n x104_b x104_x x104_f (by simp [Act.eval, smA]) hat.cellSm (hat.thaw 1)).trans (by rfl), ?_⟩⟩
    walk_nrm
    repeat (first
      | refine Qs.seq ?_
      | refine Qs.inLoop ?_
      | refine Qs.inBlock ?_
      | refine Qs.regionEnd ?_
      | (refine Qs.region ?_; simp only [List.size_toArray, List.length_cons, List.length_nil, Nat.reduceAdd, Nat.zero_add, List.range, List.range.loop])
      | (refine Qs.cond false rfl ?_; simp only [if_true, if_false, Bool.false_eq_true, ↓reduceIte])
      | refine Qs.exit rfl ?_
      | (apply Qs.val rfl rfl (by k_ne); (case hr => intro w; go_simp; (try w_num); (try rfl)); (case he => intro w; simp [go_sem]); walk_nrm; (try w_num))
      | (refine Qs.enable rfl ?_)
      | (refine Qs.leave0 rfl rfl Try.func73 rfl ?_; walk_nrm)
      | (refine Qs.leaveD rfl rfl Try.func75 rfl hcm ?_)
      | refine Qs.end_ ?_)
    exact hT
  · have hat' : WgAt 108 Wg w 8589934592 0 := by simpa [KK] using hat
    refine ⟨_, (stepG_add_atomic (v := 8589934592) rfl rfl (by k_ne) rfl Try.func118 x118_n x118_b x118_x .u64 x118_f rfl rfl hat'.cellSt (hat'.thaw 0)).trans (by rfl), fun h => absurd h (by omega), fun _ => ?_⟩
    clear hat hat'
    walk_nrm
    try w_num
    repeat (first
      | refine Qs.seq ?_
      | refine Qs.skip ?_
      | refine Qs.regionEnd ?_
      | (refine Qs.region ?_; simp only [List.size_toArray, List.length_cons, List.length_nil, Nat.reduceAdd, Nat.zero_add, List.range, List.range.loop])
      | (refine Qs.cond true rfl ?_; simp only [if_true, if_false, Bool.false_eq_true, ↓reduceIte])
      | (refine Qs.cond false rfl ?_; simp only [if_true, if_false, Bool.false_eq_true, ↓reduceIte])
      | (refine Qs.unwanted rfl rfl ?_; walk_nrm)
      | (refine Qs.leave1 rfl rfl Try.func99 rfl ?_; walk_nrm)
      | (apply Qs.val rfl rfl (by k_ne); (case hr => intro w; go_simp; (try w_num); (try rfl)); (case he => intro w; simp [go_sem]); walk_nrm; (try w_num))
      | (refine Qs.enable rfl ?_)
      | (refine Qs.leave0 rfl rfl Try.func73 rfl ?_; walk_nrm)
      | (refine Qs.leaveD rfl rfl Try.func75 rfl hcm ?_)
      | refine Qs.end_ ?_
      | refine Qs.ret ?_)
    exact hT
  · have hat' : WgAt 108 Wg w 8589934593 0 := by simpa [KK] using hat
    refine ⟨_, (stepG_add_atomic (v := 8589934593) rfl rfl (by k_ne) rfl Try.func118 x118_n x118_b x118_x .u64 x118_f rfl rfl hat'.cellSt (hat'.thaw 0)).trans (by rfl), fun h => absurd h (by omega), fun _ => ?_⟩
    clear hat hat'
    walk_nrm
    try w_num
    repeat (first
      | refine Qs.seq ?_
      | refine Qs.skip ?_
      | refine Qs.regionEnd ?_
      | (refine Qs.region ?_; simp only [List.size_toArray, List.length_cons, List.length_nil, Nat.reduceAdd, Nat.zero_add, List.range, List.range.loop])
      | (refine Qs.cond true rfl ?_; simp only [if_true, if_false, Bool.false_eq_true, ↓reduceIte])
      | (refine Qs.cond false rfl ?_; simp only [if_true, if_false, Bool.false_eq_true, ↓reduceIte])
      | (refine Qs.unwanted rfl rfl ?_; walk_nrm)
      | (refine Qs.leave1 rfl rfl Try.func99 rfl ?_; walk_nrm)
      | (apply Qs.val rfl rfl (by k_ne); (case hr => intro w; go_simp; (try w_num); (try rfl)); (case he => intro w; simp [go_sem]); walk_nrm; (try w_num))
      | (refine Qs.enable rfl ?_)
      | (refine Qs.leave0 rfl rfl Try.func73 rfl ?_; walk_nrm)
      | (refine Qs.leaveD rfl rfl Try.func75 rfl hcm ?_)
      | refine Qs.end_ ?_
      | refine Qs.ret ?_)
    exact hT
end Go.Proofs.Ytnikfjfcbpeieaa.Lk
end
