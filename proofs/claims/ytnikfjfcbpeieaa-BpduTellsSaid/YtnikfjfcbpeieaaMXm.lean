/- What the starter does: (*sync.WaitGroup).Add(1) and Wait. Written by mkwg.py. -/
import Derived.Test.YtnikfjfcbpeieaaMXa
section
namespace Go.Proofs.Ytnikfjfcbpeieaa.Lk
open Go Go.Conc Go.RowKit
open Go.ConcR (KK wgBlock WgAt stA smA rd wr mk)
open Go.ConcR.Gen
set_option linter.unusedVariables false
set_option linter.unusedSimpArgs false

section
variable {R : World → World → Prop} {D : World → World → Array Event → Prop} {Wg : Nat} {Stop : Goroutine → World → Prop} {F : World → Prop}
  {b₀ : Frame} {a₀ : Act} {ops₀ : Array Oper} {i₀ : Nat} {rest₀ : List Nat} {k₀ : List Item} {cs : List Frame}
theorem bb4 : bits .and .u64 8589934592 2147483648 = 0 := by decide
theorem bc4 : bits .and .u64 8589934592 2147483647 = 0 := by decide
theorem step_enable {b : Frame} {a : Act} {cs' : List Frame} {todo : List Item} {ds : List Deferred} {w : World} (hd : a.defers = dcall 94 #[] :: ds) :
    stepG Try.prog true (G { b.at a todo with mode := .returning } cs') w = .go (G { b.at ⟨a.tmps, ds⟩ todo with mode := .returning } cs') w #[mk .enable] :=
  stepG_unwind_entry (v := .tuple #[]) (evs := #[⟨.mark .enable, false, true⟩]) hd Try.func94 x94_n x94_b x94_x x94_f (by simp [Extern.Race.none_]) (by simp) (by
    intro x hx
    simp at hx
    subst hx
    exact ⟨rfl, fun g h => by cases h⟩)
set_option maxRecDepth 100000 in
set_option maxHeartbeats 16000000 in
theorem add_walk (V : MRule Wg R D F) (hT : Gs Try.prog true R D Stop F (G (b₀.at (a₀.put ((ops₀[i₀]?).bind (·.dst)) (.tuple #[])) (.inRegion ops₀ rest₀ :: k₀)) cs)) (T : Array Value)
    (e : T = #[.pointer (some ⟨Wg, 0, none⟩), .int .i64 1] ++ Array.replicate 115 undef) :
    Gs Try.prog true R D (MKd R D Wg Stop) F (G ((base 73).at ⟨T, []⟩ [.code c73]) (b₀.at a₀ (.inRegion ops₀ (i₀ :: rest₀) :: k₀) :: cs)) := by
  have U := V.toRule
  have U' := U
  have hcell : ∀ w, F w → ∃ v, w.cell? ⟨Wg, 0, none⟩ = some v := fun w h => let ⟨_, _, h⟩ := V.live w h; ⟨_, h.cellSt⟩
  have hcell1 : ∀ w, F w → ∃ v, w.cell? ⟨Wg, 1, none⟩ = some v := fun w h => let ⟨_, _, h⟩ := V.live w h; ⟨_, h.cellSm⟩
  subst e
  simp only [c73, Try.f73, Option.getD_some]
  walk_nrm
  repeat (first
    | refine Gs.seq U ?_
    | refine Gs.skip U ?_
    | refine Gs.regionEnd U ?_
    | (refine Gs.region U ?_; simp only [List.size_toArray, List.length_cons, List.length_nil, Nat.reduceAdd, Nat.zero_add, List.range, List.range.loop])
    | (refine Gs.cond true U rfl ?_; simp only [if_true, if_false, Bool.false_eq_true, ↓reduceIte])
    | (refine Gs.cond false U rfl ?_; simp only [if_true, if_false, Bool.false_eq_true, ↓reduceIte])
    | (apply Gs.val U rfl rfl (by k_ne); (case hr => intro w hw; go_simp; (try simp only [bb4, bc4]); (try w_num); (try rfl)); (case he => intro w hw; simp [go_sem]); walk_nrm; (try simp only [bb4, bc4]); (try w_num)))
  refine Gs.stop U fun w hw => ⟨rfl, _, stepG_mark0 .disable (by simp) rfl rfl (by k_ne) rfl Try.func93 x93_n x93_b x93_x x93_f, Gs.runs (F := F) ?_ hw⟩
  walk_nrm
  repeat (first
    | refine Gs.seq U ?_
    | refine Gs.skip U ?_
    | refine Gs.regionEnd U ?_
    | (refine Gs.region U ?_; simp only [List.size_toArray, List.length_cons, List.length_nil, Nat.reduceAdd, Nat.zero_add, List.range, List.range.loop])
    | (refine Gs.cond false U rfl ?_; simp only [if_true, if_false, Bool.false_eq_true, ↓reduceIte])
    | (refine Gs.go U rfl (fun w hw => stepG_entry_pure (.bool false) rfl rfl (by k_ne) rfl Try.func95 x95_n x95_b x95_x x95_f) ?_; walk_nrm)
    | (refine Gs.go U rfl (fun w hw => stepG_defer rfl rfl (by k_ne) rfl) ?_; walk_nrm)
    | (refine Gs.call U rfl rfl (by k_ne) rfl Try.func99 nm99 rfl ?_; walk_nrmf Try.f99)
    | (apply Gs.val U rfl rfl (by k_ne); (case hr => intro w hw; go_simp; (try simp only [bb4, bc4]); (try w_num); (try rfl)); (case he => intro w hw; simp [go_sem]); walk_nrm; (try simp only [bb4, bc4]); (try w_num)))
  refine Gs.stop U fun w hw => ⟨rfl, fun v hv hat => ?_⟩
  rcases (show v = 0 ∨ v = 1 by omega) with rfl | rfl
  · have hat' : WgAt 108 Wg w 0 0 := by simpa [KK] using hat
    refine ⟨_, (stepG_add_atomic (v := 0) rfl rfl (by k_ne) rfl Try.func118 x118_n x118_b x118_x .u64 x118_f rfl rfl hat'.cellSt (hat'.thaw 0)).trans (by rfl), Gs.runs (F := F) ?_ (V.st _ _ hw)⟩
    clear hat hat'
    walk_nrm
    try w_num
    repeat (first
      | refine Gs.seq U ?_
      | refine Gs.skip U ?_
      | refine Gs.regionEnd U ?_
      | (refine Gs.region U ?_; simp only [List.size_toArray, List.length_cons, List.length_nil, Nat.reduceAdd, Nat.zero_add, List.range, List.range.loop])
      | (refine Gs.cond true U rfl ?_; simp only [if_true, if_false, Bool.false_eq_true, ↓reduceIte])
      | (refine Gs.cond false U rfl ?_; simp only [if_true, if_false, Bool.false_eq_true, ↓reduceIte])
      | (refine Gs.unwanted U rfl rfl ?_; walk_nrm)
      | (refine Gs.leave1 U rfl rfl Try.func99 rfl ?_; walk_nrm)
      | (apply Gs.val U rfl rfl (by k_ne); (case hr => intro w hw; go_simp; (try simp only [bb4, bc4]); (try w_num); (try rfl)); (case he => intro w hw; simp [go_sem]); walk_nrm; (try simp only [bb4, bc4]); (try w_num))
      | (apply Gs.val U rfl rfl (by k_ne); (case hr => intro w hw; obtain ⟨v, hc⟩ := hcell1 w hw; have hcv := run_convert_to_unsafe (P := Try.prog) Try.underlying129 Try.underlying124 room78 hc; go_simp; rfl); (case he => intro w hw; obtain ⟨v, hc⟩ := hcell1 w hw; have hce := fun es => events_convert_to_unsafe (P := Try.prog) Try.underlying129 Try.underlying124 room78 hc es; simp [go_sem, hce]); walk_nrm)
      | (refine Gs.step U rfl (fun w hw => ⟨w, _, stepG_markAt .read (by simp) rfl rfl (by k_ne) rfl Try.func100 x100_n x100_b x100_x x100_f (ad := ⟨Wg, 1, none⟩) (by simp [Act.eval]), V.sayr w hw, hw⟩) ?_; walk_nrm)
      | refine Gs.ret U ?_)
    refine Gs.stop U fun w hw => ⟨rfl, _, step_enable rfl, Gs.runs (F := F) ?_ hw⟩
    refine Gs.leave0 U rfl rfl Try.func73 rfl ?_
    exact hT
  · have hat' : WgAt 108 Wg w 4294967296 0 := by simpa [KK] using hat
    refine ⟨_, (stepG_add_atomic (v := 4294967296) rfl rfl (by k_ne) rfl Try.func118 x118_n x118_b x118_x .u64 x118_f rfl rfl hat'.cellSt (hat'.thaw 0)).trans (by rfl), Gs.runs (F := F) ?_ (V.st _ _ hw)⟩
    clear hat hat'
    walk_nrm
    try w_num
    repeat (first
      | refine Gs.seq U ?_
      | refine Gs.skip U ?_
      | refine Gs.regionEnd U ?_
      | (refine Gs.region U ?_; simp only [List.size_toArray, List.length_cons, List.length_nil, Nat.reduceAdd, Nat.zero_add, List.range, List.range.loop])
      | (refine Gs.cond true U rfl ?_; simp only [if_true, if_false, Bool.false_eq_true, ↓reduceIte])
      | (refine Gs.cond false U rfl ?_; simp only [if_true, if_false, Bool.false_eq_true, ↓reduceIte])
      | (refine Gs.unwanted U rfl rfl ?_; walk_nrm)
      | (refine Gs.leave1 U rfl rfl Try.func99 rfl ?_; walk_nrm)
      | (apply Gs.val U rfl rfl (by k_ne); (case hr => intro w hw; go_simp; (try simp only [bb4, bc4]); (try w_num); (try rfl)); (case he => intro w hw; simp [go_sem]); walk_nrm; (try simp only [bb4, bc4]); (try w_num))
      | refine Gs.ret U ?_)
    refine Gs.stop U fun w hw => ⟨rfl, _, step_enable rfl, Gs.runs (F := F) ?_ hw⟩
    refine Gs.leave0 U rfl rfl Try.func73 rfl ?_
    exact hT
end
end Go.Proofs.Ytnikfjfcbpeieaa.Lk
end
