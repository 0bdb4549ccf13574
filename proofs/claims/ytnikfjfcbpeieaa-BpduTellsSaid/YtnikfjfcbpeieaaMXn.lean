/- What the starter does: (*sync.WaitGroup).Wait. Written by mkwg.py. -/
import Derived.Test.YtnikfjfcbpeieaaMXm
section
namespace Go.Proofs.Ytnikfjfcbpeieaa.Lk
open Go Go.Conc Go.RowKit
open Go.ConcR (KK wgBlock WgAt stA smA rd wr mk)
open Go.ConcR.Gen
set_option linter.unusedVariables false
set_option linter.unusedSimpArgs false
section
variable {R : World → World → Prop} {D : World → World → Array Event → Prop} {Wg : Nat} {Stop : Goroutine → World → Prop} {F : World → Prop}
  {b₀ : Frame} {a₀ : Act} {ops₀ : Array Oper} {i₀ : Nat} {rest₀ : List Nat} {k₀ : List Item} {cs : List Frame}
set_option maxRecDepth 100000 in
set_option maxHeartbeats 40000000 in
theorem wait_round (V : MRule Wg R D F) (hT : Gs Try.prog true R D Stop F (G (b₀.at (a₀.put ((ops₀[i₀]?).bind (·.dst)) (.tuple #[])) (.inRegion ops₀ rest₀ :: k₀)) cs)) (n : Nat) : ∀ (T : Array Value), T.size = 84 → T[0]? = some (.pointer (some ⟨Wg, 0, none⟩)) →
    Gs Try.prog true R D (W1 R D Wg Stop n) F (G ((base 77).at ⟨T, []⟩ [.code L77, .inLoop L77, .inBlock 0]) (b₀.at a₀ (.inRegion ops₀ (i₀ :: rest₀) :: k₀) :: cs)) := by
  have U := V.toRule
  have hcell : ∀ w, F w → ∃ v, w.cell? ⟨Wg, 0, none⟩ = some v := fun w h => let ⟨_, _, h⟩ := V.live w h; ⟨_, h.cellSt⟩
  have hcell1 : ∀ w, F w → ∃ v, w.cell? ⟨Wg, 1, none⟩ = some v := fun w h => let ⟨_, _, h⟩ := V.live w h; ⟨_, h.cellSm⟩
  induction n with
  | zero =>
    intro T hT84 t0
    obtain ⟨v0, v1, v2, v3, v4, v5, v6, v7, v8, v9, v10, v11, v12, v13, v14, v15, v16, v17, v18, v19, v20, v21, v22, v23, v24, v25, v26, v27, v28, v29, v30, v31, v32, v33, v34, v35, v36, v37, v38, v39, v40, v41, v42, v43, v44, v45, v46, v47, v48, v49, v50, v51, v52, v53, v54, v55, v56, v57, v58, v59, v60, v61, v62, v63, v64, v65, v66, v67, v68, v69, v70, v71, v72, v73, v74, v75, v76, v77, v78, v79, v80, v81, v82, v83, rfl⟩ := array84 T hT84
    simp only [List.getElem?_toArray, List.getElem?_cons_zero, Option.some.injEq] at t0
    subst t0
    simp only [L77, c77, Try.f77, Option.getD_some, cR, cB, cLp]
    repeat (first
      | refine Gs.seq U ?_
      | refine Gs.block U ?_
      | refine Gs.regionEnd U ?_
      | (refine Gs.region U ?_; simp only [List.size_toArray, List.length_cons, List.length_nil, Nat.reduceAdd, Nat.zero_add, List.range, List.range.loop])
      | (refine Gs.call U rfl rfl (by k_ne) rfl Try.func101 nm101 rfl ?_; walk_nrmf Try.f101)
      | (apply Gs.val U rfl rfl (by k_ne); (case hr => intro w hw; go_simp; (try simp only [bb4, bc4]); (try w_num); (try rfl)); (case he => intro w hw; simp [go_sem]); walk_nrm; (try simp only [bb4, bc4]); (try w_num)))
    refine Gs.stop U fun w hw => ⟨rfl, fun hat => ⟨_, stepG_load_atomic (v := 0) rfl rfl (by k_ne) rfl Try.func119 x119_n x119_b x119_x .u64 x119_f rfl hat.cellSt, Gs.runs (F := F) ?_ hw⟩⟩
    walk_nrm
    repeat (first
      | refine Gs.seq U ?_
      | refine Gs.regionEnd U ?_
      | (refine Gs.region U ?_; simp only [List.size_toArray, List.length_cons, List.length_nil, Nat.reduceAdd, Nat.zero_add, List.range, List.range.loop])
      | (refine Gs.cond true U rfl ?_; simp only [if_true, if_false, Bool.false_eq_true, ↓reduceIte])
      | (refine Gs.leave1 U rfl rfl Try.func101 rfl ?_; walk_nrm)
      | (apply Gs.val U rfl rfl (by k_ne); (case hr => intro w hw; go_simp; (try simp only [bb4, bc4]); (try w_num); (try rfl)); (case he => intro w hw; simp [go_sem]); walk_nrm; (try simp only [bb4, bc4]); (try w_num))
      | refine Gs.ret U ?_)
    refine Gs.stop U fun w hw => ⟨rfl, _, stepG_mark0 .enable (by simp) rfl rfl (by k_ne) rfl Try.func94 x94_n x94_b x94_x x94_f, Gs.runs (F := F) ?_ hw⟩
    walk_nrm
    repeat (first
      | refine Gs.regionEnd U ?_
      | (refine Gs.region U ?_; simp only [List.size_toArray, List.length_cons, List.length_nil, Nat.reduceAdd, Nat.zero_add, List.range, List.range.loop])
      | (apply Gs.val U rfl rfl (by k_ne); (case hr => intro w hw; go_simp; (try simp only [bb4, bc4]); (try w_num); (try rfl)); (case he => intro w hw; simp [go_sem]); walk_nrm; (try simp only [bb4, bc4]); (try w_num))
      | (apply Gs.val U rfl rfl (by k_ne); (case hr => intro w hw; obtain ⟨v, hc⟩ := hcell w hw; have hcv := run_convert_to_unsafe (P := Try.prog) Try.underlying122 Try.underlying124 room108 hc; go_simp; rfl); (case he => intro w hw; obtain ⟨v, hc⟩ := hcell w hw; have hce := fun es => events_convert_to_unsafe (P := Try.prog) Try.underlying122 Try.underlying124 room108 hc es; simp [go_sem, hce]); walk_nrm))
    refine Gs.stop U fun w hw => ⟨rfl, _, stepG_markAt .acquire (by simp) rfl rfl (by k_ne) rfl Try.func107 x107_n x107_b x107_x x107_f (by simp [Act.eval, stA]), Gs.runs (F := F) ?_ hw⟩
    walk_nrm
    repeat (first
      | refine Gs.seq U ?_
      | refine Gs.skip U ?_
      | refine Gs.regionEnd U ?_
      | (refine Gs.region U ?_; simp only [List.size_toArray, List.length_cons, List.length_nil, Nat.reduceAdd, Nat.zero_add, List.range, List.range.loop])
      | (refine Gs.cond false U rfl ?_; simp only [if_true, if_false, Bool.false_eq_true, ↓reduceIte])
      | (refine Gs.unwanted U rfl rfl ?_; walk_nrm)
      | (apply Gs.val U rfl rfl (by k_ne); (case hr => intro w hw; go_simp; (try simp only [bb4, bc4]); (try w_num); (try rfl)); (case he => intro w hw; simp [go_sem]); walk_nrm; (try simp only [bb4, bc4]); (try w_num))
      | refine Gs.ret U ?_)
    refine Gs.leave0 U rfl rfl Try.func77 rfl ?_
    exact hT
  | succ n ih =>
    intro T hT84 t0
    obtain ⟨v0, v1, v2, v3, v4, v5, v6, v7, v8, v9, v10, v11, v12, v13, v14, v15, v16, v17, v18, v19, v20, v21, v22, v23, v24, v25, v26, v27, v28, v29, v30, v31, v32, v33, v34, v35, v36, v37, v38, v39, v40, v41, v42, v43, v44, v45, v46, v47, v48, v49, v50, v51, v52, v53, v54, v55, v56, v57, v58, v59, v60, v61, v62, v63, v64, v65, v66, v67, v68, v69, v70, v71, v72, v73, v74, v75, v76, v77, v78, v79, v80, v81, v82, v83, rfl⟩ := array84 T hT84
    simp only [List.getElem?_toArray, List.getElem?_cons_zero, Option.some.injEq] at t0
    subst t0
    simp only [L77, c77, Try.f77, Option.getD_some, cR, cB, cLp] at ih ⊢
    repeat (first
      | refine Gs.seq U ?_
      | refine Gs.block U ?_
      | refine Gs.regionEnd U ?_
      | (refine Gs.region U ?_; simp only [List.size_toArray, List.length_cons, List.length_nil, Nat.reduceAdd, Nat.zero_add, List.range, List.range.loop])
      | (refine Gs.call U rfl rfl (by k_ne) rfl Try.func101 nm101 rfl ?_; walk_nrmf Try.f101)
      | (apply Gs.val U rfl rfl (by k_ne); (case hr => intro w hw; go_simp; (try simp only [bb4, bc4]); (try w_num); (try rfl)); (case he => intro w hw; simp [go_sem]); walk_nrm; (try simp only [bb4, bc4]); (try w_num)))
    refine Gs.stop U fun w hw => ⟨rfl, fun v hv hv2 hat => ?_⟩
    rcases (show v = 0 ∨ v = 1 ∨ v = 2 by omega) with rfl | rfl | rfl
    · have hat' : WgAt 108 Wg w 0 0 := by simpa [KK] using hat
      refine ⟨_, stepG_load_atomic (v := 0) rfl rfl (by k_ne) rfl Try.func119 x119_n x119_b x119_x .u64 x119_f rfl hat'.cellSt, fun _ => Gs.runs (F := F) ?_ hw, fun h => absurd rfl h⟩
      clear hat hat'
      walk_nrm
      repeat (first
        | refine Gs.seq U ?_
        | refine Gs.regionEnd U ?_
        | (refine Gs.region U ?_; simp only [List.size_toArray, List.length_cons, List.length_nil, Nat.reduceAdd, Nat.zero_add, List.range, List.range.loop])
        | (refine Gs.cond true U rfl ?_; simp only [if_true, if_false, Bool.false_eq_true, ↓reduceIte])
        | (refine Gs.leave1 U rfl rfl Try.func101 rfl ?_; walk_nrm)
        | (apply Gs.val U rfl rfl (by k_ne); (case hr => intro w hw; go_simp; (try simp only [bb4, bc4]); (try w_num); (try rfl)); (case he => intro w hw; simp [go_sem]); walk_nrm; (try simp only [bb4, bc4]); (try w_num))
        | refine Gs.ret U ?_)
      refine Gs.stop U fun w hw => ⟨rfl, _, stepG_mark0 .enable (by simp) rfl rfl (by k_ne) rfl Try.func94 x94_n x94_b x94_x x94_f, Gs.runs (F := F) ?_ hw⟩
      walk_nrm
      repeat (first
        | refine Gs.regionEnd U ?_
        | (refine Gs.region U ?_; simp only [List.size_toArray, List.length_cons, List.length_nil, Nat.reduceAdd, Nat.zero_add, List.range, List.range.loop])
        | (apply Gs.val U rfl rfl (by k_ne); (case hr => intro w hw; go_simp; (try simp only [bb4, bc4]); (try w_num); (try rfl)); (case he => intro w hw; simp [go_sem]); walk_nrm; (try simp only [bb4, bc4]); (try w_num))
        | (apply Gs.val U rfl rfl (by k_ne); (case hr => intro w hw; obtain ⟨v, hc⟩ := hcell w hw; have hcv := run_convert_to_unsafe (P := Try.prog) Try.underlying122 Try.underlying124 room108 hc; go_simp; rfl); (case he => intro w hw; obtain ⟨v, hc⟩ := hcell w hw; have hce := fun es => events_convert_to_unsafe (P := Try.prog) Try.underlying122 Try.underlying124 room108 hc es; simp [go_sem, hce]); walk_nrm))
      refine Gs.stop U fun w hw => ⟨rfl, _, stepG_markAt .acquire (by simp) rfl rfl (by k_ne) rfl Try.func107 x107_n x107_b x107_x x107_f (by simp [Act.eval, stA]), Gs.runs (F := F) ?_ hw⟩
      walk_nrm
      repeat (first
        | refine Gs.seq U ?_
        | refine Gs.skip U ?_
        | refine Gs.regionEnd U ?_
        | (refine Gs.region U ?_; simp only [List.size_toArray, List.length_cons, List.length_nil, Nat.reduceAdd, Nat.zero_add, List.range, List.range.loop])
        | (refine Gs.cond false U rfl ?_; simp only [if_true, if_false, Bool.false_eq_true, ↓reduceIte])
        | (refine Gs.unwanted U rfl rfl ?_; walk_nrm)
        | (apply Gs.val U rfl rfl (by k_ne); (case hr => intro w hw; go_simp; (try simp only [bb4, bc4]); (try w_num); (try rfl)); (case he => intro w hw; simp [go_sem]); walk_nrm; (try simp only [bb4, bc4]); (try w_num))
        | refine Gs.ret U ?_)
      refine Gs.leave0 U rfl rfl Try.func77 rfl ?_
      exact hT
    · have hat' : WgAt 108 Wg w 4294967296 0 := by simpa [KK] using hat
      refine ⟨_, stepG_load_atomic (v := 4294967296) rfl rfl (by k_ne) rfl Try.func119 x119_n x119_b x119_x .u64 x119_f rfl hat'.cellSt, fun h => absurd h (by omega), fun _ => Gs.runs (F := F) ?_ hw⟩
      clear hat hat'
      walk_nrm
      repeat (first
        | refine Gs.seq U ?_
        | refine Gs.skip U ?_
        | refine Gs.regionEnd U ?_
        | (refine Gs.region U ?_; simp only [List.size_toArray, List.length_cons, List.length_nil, Nat.reduceAdd, Nat.zero_add, List.range, List.range.loop])
        | (refine Gs.cond false U rfl ?_; simp only [if_true, if_false, Bool.false_eq_true, ↓reduceIte])
        | (refine Gs.call U rfl rfl (by k_ne) rfl Try.func109 nm109 rfl ?_; walk_nrmf Try.f109)
        | (refine Gs.leave1 U rfl rfl Try.func101 rfl ?_; walk_nrm)
        | (apply Gs.val U rfl rfl (by k_ne); (case hr => intro w hw; go_simp; (try simp only [bb4, bc4]); (try w_num); (try rfl)); (case he => intro w hw; simp [go_sem]); walk_nrm; (try simp only [bb4, bc4]); (try w_num))
        | refine Gs.ret U ?_)
      refine Gs.stop U fun w hw => ⟨rfl, fun v' hv' hat => ⟨fun e => ?_, fun e => ?_⟩⟩
      · subst e
        have hat' : WgAt 108 Wg w 4294967296 0 := by simpa [KK] using hat
        refine ⟨_, (stepG_cas_hit (v := 4294967296) (n := 4294967297) rfl rfl (by k_ne) rfl Try.func123 x123_n x123_b x123_x .u64 x123_f rfl rfl rfl hat'.cellSt (hat'.thaw 0)).trans (by rfl), Gs.runs (F := F) ?_ (V.st _ _ hw)⟩
        clear hat hat'
        walk_nrm
        repeat (first
          | refine Gs.seq U ?_
          | refine Gs.skip U ?_
          | refine Gs.regionEnd U ?_
          | (refine Gs.region U ?_; simp only [List.size_toArray, List.length_cons, List.length_nil, Nat.reduceAdd, Nat.zero_add, List.range, List.range.loop])
          | (refine Gs.cond true U rfl ?_; simp only [if_true, if_false, Bool.false_eq_true, ↓reduceIte])
          | (refine Gs.cond false U rfl ?_; simp only [if_true, if_false, Bool.false_eq_true, ↓reduceIte])
          | (refine Gs.unwanted U rfl rfl ?_; walk_nrm)
          | (refine Gs.leave1 U rfl rfl Try.func109 rfl ?_; walk_nrm)
          | (apply Gs.val U rfl rfl (by k_ne); (case hr => intro w hw; go_simp; (try simp only [bb4, bc4]); (try w_num); (try rfl)); (case he => intro w hw; simp [go_sem]); walk_nrm; (try simp only [bb4, bc4]); (try w_num))
          | (apply Gs.val U rfl rfl (by k_ne); (case hr => intro w hw; obtain ⟨v, hc⟩ := hcell1 w hw; have hcv := run_convert_to_unsafe (P := Try.prog) Try.underlying129 Try.underlying124 room78 hc; go_simp; rfl); (case he => intro w hw; obtain ⟨v, hc⟩ := hcell1 w hw; have hce := fun es => events_convert_to_unsafe (P := Try.prog) Try.underlying129 Try.underlying124 room78 hc es; simp [go_sem, hce]); walk_nrm)
          | (refine Gs.step U rfl (fun w hw => ⟨w, _, stepG_markAt .write (by simp) rfl rfl (by k_ne) rfl Try.func110 x110_n x110_b x110_x x110_f (ad := ⟨Wg, 1, none⟩) (by simp [Act.eval]), V.sayw w hw, hw⟩) ?_; walk_nrm)
          | refine Gs.ret U ?_)
        refine Gs.stop U fun w hw => ⟨rfl, rfl, fun ⟨st, hat⟩ => stepG_semacquire_wait rfl rfl rfl Try.func111 x111_n x111_b x111_x x111_f (by simp [Act.eval, smA]) hat.cellSm, fun hat => ?_⟩
        refine ⟨_, (stepG_semacquire (n := 1) rfl rfl (by k_ne) rfl Try.func111 x111_n x111_b x111_x x111_f (by simp [Act.eval, smA]) hat.cellSm (by decide) (hat.thaw 1)).trans (by rfl), Gs.runs (F := F) ?_ (V.sm _ _ hw)⟩
        clear hat
        walk_nrm
        repeat (first
          | refine Gs.seq U ?_
          | refine Gs.regionEnd U ?_
          | (refine Gs.region U ?_; simp only [List.size_toArray, List.length_cons, List.length_nil, Nat.reduceAdd, Nat.zero_add, List.range, List.range.loop])
          | (refine Gs.call U rfl rfl (by k_ne) rfl Try.func101 nm101 rfl ?_; walk_nrmf Try.f101)
          | (apply Gs.val U rfl rfl (by k_ne); (case hr => intro w hw; go_simp; (try simp only [bb4, bc4]); (try w_num); (try rfl)); (case he => intro w hw; simp [go_sem]); walk_nrm; (try simp only [bb4, bc4]); (try w_num)))
        refine Gs.stop U fun w hw => ⟨rfl, fun hat => ⟨_, stepG_load_atomic (v := 0) rfl rfl (by k_ne) rfl Try.func119 x119_n x119_b x119_x .u64 x119_f rfl hat.cellSt, Gs.runs (F := F) ?_ hw⟩⟩
        walk_nrm
        repeat (first
          | refine Gs.seq U ?_
          | refine Gs.regionEnd U ?_
          | (refine Gs.region U ?_; simp only [List.size_toArray, List.length_cons, List.length_nil, Nat.reduceAdd, Nat.zero_add, List.range, List.range.loop])
          | (refine Gs.cond true U rfl ?_; simp only [if_true, if_false, Bool.false_eq_true, ↓reduceIte])
          | (refine Gs.leave1 U rfl rfl Try.func101 rfl ?_; walk_nrm)
          | (apply Gs.val U rfl rfl (by k_ne); (case hr => intro w hw; go_simp; (try simp only [bb4, bc4]); (try w_num); (try rfl)); (case he => intro w hw; simp [go_sem]); walk_nrm; (try simp only [bb4, bc4]); (try w_num))
          | refine Gs.ret U ?_)
        refine Gs.stop U fun w hw => ⟨rfl, _, stepG_mark0 .enable (by simp) rfl rfl (by k_ne) rfl Try.func94 x94_n x94_b x94_x x94_f, Gs.runs (F := F) ?_ hw⟩
        walk_nrm
        repeat (first
          | refine Gs.regionEnd U ?_
          | (refine Gs.region U ?_; simp only [List.size_toArray, List.length_cons, List.length_nil, Nat.reduceAdd, Nat.zero_add, List.range, List.range.loop])
          | (apply Gs.val U rfl rfl (by k_ne); (case hr => intro w hw; go_simp; (try simp only [bb4, bc4]); (try w_num); (try rfl)); (case he => intro w hw; simp [go_sem]); walk_nrm; (try simp only [bb4, bc4]); (try w_num))
          | (apply Gs.val U rfl rfl (by k_ne); (case hr => intro w hw; obtain ⟨v, hc⟩ := hcell w hw; have hcv := run_convert_to_unsafe (P := Try.prog) Try.underlying122 Try.underlying124 room108 hc; go_simp; rfl); (case he => intro w hw; obtain ⟨v, hc⟩ := hcell w hw; have hce := fun es => events_convert_to_unsafe (P := Try.prog) Try.underlying122 Try.underlying124 room108 hc es; simp [go_sem, hce]); walk_nrm))
        refine Gs.stop U fun w hw => ⟨rfl, _, stepG_markAt .acquire (by simp) rfl rfl (by k_ne) rfl Try.func107 x107_n x107_b x107_x x107_f (by simp [Act.eval, stA]), Gs.runs (F := F) ?_ hw⟩
        walk_nrm
        repeat (first
          | refine Gs.seq U ?_
          | refine Gs.skip U ?_
          | refine Gs.regionEnd U ?_
          | (refine Gs.region U ?_; simp only [List.size_toArray, List.length_cons, List.length_nil, Nat.reduceAdd, Nat.zero_add, List.range, List.range.loop])
          | (refine Gs.cond false U rfl ?_; simp only [if_true, if_false, Bool.false_eq_true, ↓reduceIte])
          | (apply Gs.val U rfl rfl (by k_ne); (case hr => intro w hw; go_simp; (try simp only [bb4, bc4]); (try w_num); (try rfl)); (case he => intro w hw; simp [go_sem]); walk_nrm; (try simp only [bb4, bc4]); (try w_num))
          | refine Gs.ret U ?_)
        refine Gs.leave0 U rfl rfl Try.func77 rfl ?_
        exact hT
      · refine ⟨_, stepG_cas_miss (v := (v' : Int) * KK) (old := 4294967296) (n := 4294967297) rfl rfl (by k_ne) rfl Try.func123 x123_n x123_b x123_x .u64 x123_f rfl rfl rfl hat.cellSt (hat.thaw 0) (by simp only [KK]; omega), Gs.runs (F := F) ?_ hw⟩
        clear hat
        walk_nrm
        repeat (first
          | refine Gs.inBlock U ?_
          | refine Gs.skip U ?_
          | refine Gs.regionEnd U ?_
          | (refine Gs.cond false U rfl ?_; simp only [if_true, if_false, Bool.false_eq_true, ↓reduceIte])
          | (refine Gs.leave1 U rfl rfl Try.func109 rfl ?_; walk_nrm)
          | (apply Gs.val U rfl rfl (by k_ne); (case hr => intro w hw; go_simp; (try simp only [bb4, bc4]); (try w_num); (try rfl)); (case he => intro w hw; simp [go_sem]); walk_nrm; (try simp only [bb4, bc4]); (try w_num))
          | refine Gs.ret U ?_)
        refine Gs.inLoop U ?_
        exact ih _ rfl rfl
    · have hat' : WgAt 108 Wg w 8589934592 0 := by simpa [KK] using hat
      refine ⟨_, stepG_load_atomic (v := 8589934592) rfl rfl (by k_ne) rfl Try.func119 x119_n x119_b x119_x .u64 x119_f rfl hat'.cellSt, fun h => absurd h (by omega), fun _ => Gs.runs (F := F) ?_ hw⟩
      clear hat hat'
      walk_nrm
      repeat (first
        | refine Gs.seq U ?_
        | refine Gs.skip U ?_
        | refine Gs.regionEnd U ?_
        | (refine Gs.region U ?_; simp only [List.size_toArray, List.length_cons, List.length_nil, Nat.reduceAdd, Nat.zero_add, List.range, List.range.loop])
        | (refine Gs.cond false U rfl ?_; simp only [if_true, if_false, Bool.false_eq_true, ↓reduceIte])
        | (refine Gs.call U rfl rfl (by k_ne) rfl Try.func109 nm109 rfl ?_; walk_nrmf Try.f109)
        | (refine Gs.leave1 U rfl rfl Try.func101 rfl ?_; walk_nrm)
        | (apply Gs.val U rfl rfl (by k_ne); (case hr => intro w hw; go_simp; (try simp only [bb4, bc4]); (try w_num); (try rfl)); (case he => intro w hw; simp [go_sem]); walk_nrm; (try simp only [bb4, bc4]); (try w_num))
        | refine Gs.ret U ?_)
      refine Gs.stop U fun w hw => ⟨rfl, fun v' hv' hat => ⟨fun e => ?_, fun e => ?_⟩⟩
      · subst e
        have hat' : WgAt 108 Wg w 8589934592 0 := by simpa [KK] using hat
        refine ⟨_, (stepG_cas_hit (v := 8589934592) (n := 8589934593) rfl rfl (by k_ne) rfl Try.func123 x123_n x123_b x123_x .u64 x123_f rfl rfl rfl hat'.cellSt (hat'.thaw 0)).trans (by rfl), Gs.runs (F := F) ?_ (V.st _ _ hw)⟩
        clear hat hat'
        walk_nrm
        repeat (first
          | refine Gs.seq U ?_
          | refine Gs.skip U ?_
          | refine Gs.regionEnd U ?_
          | (refine Gs.region U ?_; simp only [List.size_toArray, List.length_cons, List.length_nil, Nat.reduceAdd, Nat.zero_add, List.range, List.range.loop])
          | (refine Gs.cond true U rfl ?_; simp only [if_true, if_false, Bool.false_eq_true, ↓reduceIte])
          | (refine Gs.cond false U rfl ?_; simp only [if_true, if_false, Bool.false_eq_true, ↓reduceIte])
          | (refine Gs.unwanted U rfl rfl ?_; walk_nrm)
          | (refine Gs.leave1 U rfl rfl Try.func109 rfl ?_; walk_nrm)
          | (apply Gs.val U rfl rfl (by k_ne); (case hr => intro w hw; go_simp; (try simp only [bb4, bc4]); (try w_num); (try rfl)); (case he => intro w hw; simp [go_sem]); walk_nrm; (try simp only [bb4, bc4]); (try w_num))
          | (apply Gs.val U rfl rfl (by k_ne); (case hr => intro w hw; obtain ⟨v, hc⟩ := hcell1 w hw; have hcv := run_convert_to_unsafe (P := Try.prog) Try.underlying129 Try.underlying124 room78 hc; go_simp; rfl); (case he => intro w hw; obtain ⟨v, hc⟩ := hcell1 w hw; have hce := fun es => events_convert_to_unsafe (P := Try.prog) Try.underlying129 Try.underlying124 room78 hc es; simp [go_sem, hce]); walk_nrm)
          | (refine Gs.step U rfl (fun w hw => ⟨w, _, stepG_markAt .write (by simp) rfl rfl (by k_ne) rfl Try.func110 x110_n x110_b x110_x x110_f (ad := ⟨Wg, 1, none⟩) (by simp [Act.eval]), V.sayw w hw, hw⟩) ?_; walk_nrm)
          | refine Gs.ret U ?_)
        refine Gs.stop U fun w hw => ⟨rfl, rfl, fun ⟨st, hat⟩ => stepG_semacquire_wait rfl rfl rfl Try.func111 x111_n x111_b x111_x x111_f (by simp [Act.eval, smA]) hat.cellSm, fun hat => ?_⟩
        refine ⟨_, (stepG_semacquire (n := 1) rfl rfl (by k_ne) rfl Try.func111 x111_n x111_b x111_x x111_f (by simp [Act.eval, smA]) hat.cellSm (by decide) (hat.thaw 1)).trans (by rfl), Gs.runs (F := F) ?_ (V.sm _ _ hw)⟩
        clear hat
        walk_nrm
        repeat (first
          | refine Gs.seq U ?_
          | refine Gs.regionEnd U ?_
          | (refine Gs.region U ?_; simp only [List.size_toArray, List.length_cons, List.length_nil, Nat.reduceAdd, Nat.zero_add, List.range, List.range.loop])
          | (refine Gs.call U rfl rfl (by k_ne) rfl Try.func101 nm101 rfl ?_; walk_nrmf Try.f101)
          | (apply Gs.val U rfl rfl (by k_ne); (case hr => intro w hw; go_simp; (try simp only [bb4, bc4]); (try w_num); (try rfl)); (case he => intro w hw; simp [go_sem]); walk_nrm; (try simp only [bb4, bc4]); (try w_num)))
        refine Gs.stop U fun w hw => ⟨rfl, fun hat => ⟨_, stepG_load_atomic (v := 0) rfl rfl (by k_ne) rfl Try.func119 x119_n x119_b x119_x .u64 x119_f rfl hat.cellSt, Gs.runs (F := F) ?_ hw⟩⟩
        walk_nrm
        repeat (first
          | refine Gs.seq U ?_
          | refine Gs.regionEnd U ?_
          | (refine Gs.region U ?_; simp only [List.size_toArray, List.length_cons, List.length_nil, Nat.reduceAdd, Nat.zero_add, List.range, List.range.loop])
          | (refine Gs.cond true U rfl ?_; simp only [if_true, if_false, Bool.false_eq_true, ↓reduceIte])
          | (refine Gs.leave1 U rfl rfl Try.func101 rfl ?_; walk_nrm)
          | (apply Gs.val U rfl rfl (by k_ne); (case hr => intro w hw; go_simp; (try simp only [bb4, bc4]); (try w_num); (try rfl)); (case he => intro w hw; simp [go_sem]); walk_nrm; (try simp only [bb4, bc4]); (try w_num))
          | refine Gs.ret U ?_)
        refine Gs.stop U fun w hw => ⟨rfl, _, stepG_mark0 .enable (by simp) rfl rfl (by k_ne) rfl Try.func94 x94_n x94_b x94_x x94_f, Gs.runs (F := F) ?_ hw⟩
        walk_nrm
        repeat (first
          | refine Gs.regionEnd U ?_
          | (refine Gs.region U ?_; simp only [List.size_toArray, List.length_cons, List.length_nil, Nat.reduceAdd, Nat.zero_add, List.range, List.range.loop])
          | (apply Gs.val U rfl rfl (by k_ne); (case hr => intro w hw; go_simp; (try simp only [bb4, bc4]); (try w_num); (try rfl)); (case he => intro w hw; simp [go_sem]); walk_nrm; (try simp only [bb4, bc4]); (try w_num))
          | (apply Gs.val U rfl rfl (by k_ne); (case hr => intro w hw; obtain ⟨v, hc⟩ := hcell w hw; have hcv := run_convert_to_unsafe (P := Try.prog) Try.underlying122 Try.underlying124 room108 hc; go_simp; rfl); (case he => intro w hw; obtain ⟨v, hc⟩ := hcell w hw; have hce := fun es => events_convert_to_unsafe (P := Try.prog) Try.underlying122 Try.underlying124 room108 hc es; simp [go_sem, hce]); walk_nrm))
        refine Gs.stop U fun w hw => ⟨rfl, _, stepG_markAt .acquire (by simp) rfl rfl (by k_ne) rfl Try.func107 x107_n x107_b x107_x x107_f (by simp [Act.eval, stA]), Gs.runs (F := F) ?_ hw⟩
        walk_nrm
        repeat (first
          | refine Gs.seq U ?_
          | refine Gs.skip U ?_
          | refine Gs.regionEnd U ?_
          | (refine Gs.region U ?_; simp only [List.size_toArray, List.length_cons, List.length_nil, Nat.reduceAdd, Nat.zero_add, List.range, List.range.loop])
          | (refine Gs.cond false U rfl ?_; simp only [if_true, if_false, Bool.false_eq_true, ↓reduceIte])
          | (apply Gs.val U rfl rfl (by k_ne); (case hr => intro w hw; go_simp; (try simp only [bb4, bc4]); (try w_num); (try rfl)); (case he => intro w hw; simp [go_sem]); walk_nrm; (try simp only [bb4, bc4]); (try w_num))
          | refine Gs.ret U ?_)
        refine Gs.leave0 U rfl rfl Try.func77 rfl ?_
        exact hT
      · refine ⟨_, stepG_cas_miss (v := (v' : Int) * KK) (old := 8589934592) (n := 8589934593) rfl rfl (by k_ne) rfl Try.func123 x123_n x123_b x123_x .u64 x123_f rfl rfl rfl hat.cellSt (hat.thaw 0) (by simp only [KK]; omega), Gs.runs (F := F) ?_ hw⟩
        clear hat
        walk_nrm
        repeat (first
          | refine Gs.inBlock U ?_
          | refine Gs.skip U ?_
          | refine Gs.regionEnd U ?_
          | (refine Gs.cond false U rfl ?_; simp only [if_true, if_false, Bool.false_eq_true, ↓reduceIte])
          | (refine Gs.leave1 U rfl rfl Try.func109 rfl ?_; walk_nrm)
          | (apply Gs.val U rfl rfl (by k_ne); (case hr => intro w hw; go_simp; (try simp only [bb4, bc4]); (try w_num); (try rfl)); (case he => intro w hw; simp [go_sem]); walk_nrm; (try simp only [bb4, bc4]); (try w_num))
          | refine Gs.ret U ?_)
        refine Gs.inLoop U ?_
        exact ih _ rfl rfl

set_option maxRecDepth 100000 in
set_option maxHeartbeats 8000000 in
theorem wait_walk (V : MRule Wg R D F) (hT : Gs Try.prog true R D Stop F (G (b₀.at (a₀.put ((ops₀[i₀]?).bind (·.dst)) (.tuple #[])) (.inRegion ops₀ rest₀ :: k₀)) cs)) (T : Array Value)
    (e : T = #[.pointer (some ⟨Wg, 0, none⟩)] ++ Array.replicate 83 undef) :
    Gs Try.prog true R D (WKd R D Wg Stop) F (G ((base 77).at ⟨T, []⟩ [.code c77]) (b₀.at a₀ (.inRegion ops₀ (i₀ :: rest₀) :: k₀) :: cs)) := by
  have hr := wait_round V hT 2
  have U := V.toRule
  have hcell : ∀ w, F w → ∃ v, w.cell? ⟨Wg, 0, none⟩ = some v := fun w h => let ⟨_, _, h⟩ := V.live w h; ⟨_, h.cellSt⟩
  have hcell1 : ∀ w, F w → ∃ v, w.cell? ⟨Wg, 1, none⟩ = some v := fun w h => let ⟨_, _, h⟩ := V.live w h; ⟨_, h.cellSm⟩
  subst e
  simp only [L77, c77, Try.f77, Option.getD_some, cR, cB, cLp] at hr ⊢
  walk_nrm
  repeat (first
    | refine Gs.seq U ?_
    | (refine Gs.region U ?_; simp only [List.size_toArray, List.length_cons, List.length_nil, Nat.reduceAdd, Nat.zero_add, List.range, List.range.loop])
    | (refine Gs.cond true U rfl ?_; simp only [if_true, if_false, Bool.false_eq_true, ↓reduceIte]))
  refine Gs.stop U fun w hw => ⟨rfl, _, stepG_mark0 .disable (by simp) rfl rfl (by k_ne) rfl Try.func93 x93_n x93_b x93_x x93_f, Gs.runs (F := F) ?_ hw⟩
  walk_nrm
  repeat (first
    | refine Gs.block U ?_
    | refine Gs.regionEnd U ?_)
  refine Gs.loop U ?_
  exact hr _ rfl rfl
end
end Go.Proofs.Ytnikfjfcbpeieaa.Lk
end
