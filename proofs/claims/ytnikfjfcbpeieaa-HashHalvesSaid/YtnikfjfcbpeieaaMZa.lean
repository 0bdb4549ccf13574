/- (*sync.WaitGroup).Add(1) and Wait, over known temporaries. Written by mkwz.py. -/
import Derived.Test.YtnikfjfcbpeieaaMH3
section
namespace Go.Proofs.Ytnikfjfcbpeieaa.Hk
open Go Go.Conc Go.RowKit Go.Proofs.Ytnikfjfcbpeieaa.Lk
open Go.ConcR (KK wgBlock WgAt stA smA rd wr)
open Go.ConcR.Gen
set_option linter.unusedVariables false
set_option linter.unusedSimpArgs false
noncomputable def c99 : Code := Try.f99.body.getD .skip
theorem body99 : Try.f99.body = some c99 := rfl
noncomputable def c101 : Code := Try.f101.body.getD .skip
theorem body101 : Try.f101.body = some c101 := rfl
noncomputable def c102 : Code := Try.f102.body.getD .skip
noncomputable def c109 : Code := Try.f109.body.getD .skip
theorem body109 : Try.f109.body = some c109 := rfl
theorem looks3 (v0 v1 v2 : Value) (m : Nat) : Looks [(0, v0), (1, v1), (2, v2)] (#[v0, v1, v2] ++ Array.replicate m undef) := by
 intro i v e
 simp only [Rho.get] at e
 split at e
 ·rename_i h; subst h; rw [Array.getElem?_append_left (by simp)]; simpa using e
 ·split at e
  ·rename_i h; subst h; rw [Array.getElem?_append_left (by simp)]; simpa using e
  ·split at e
   ·rename_i h; subst h; rw [Array.getElem?_append_left (by simp)]; simpa using e
   ·cases e
theorem step_enable {b : Frame} {a : Act} {cs' : List Frame} {todo : List Item} {ds : List Deferred} {w : World} (hd : a.defers = dcall 94 #[] :: ds) :
  stepG Try.prog true (G { b.at a todo with mode := .returning } cs') w = .go (G { b.at ⟨a.tmps, ds⟩ todo with mode := .returning } cs') w #[Go.ConcR.mk .enable] :=
 stepG_unwind_entry (v := .tuple #[]) (evs := #[⟨.mark .enable, false, true⟩]) hd Try.func94 x94_n x94_b x94_x x94_f (by simp [Extern.Race.none_]) (by simp) (by
  intro x hx
  simp at hx
  subst hx
  exact ⟨rfl, fun g h => by cases h⟩)
section
variable {R : World → World → Prop} {D : World → World → Array Event → Prop} {Wg : Nat} {Stop : Goroutine → World → Prop} {F : World → Prop}
 {b₀ : Frame} {a₀ : Act} {ops₀ : Array Oper} {i₀ : Nat} {rest₀ : List Nat} {k₀ : List Item} {cs : List Frame}
set_option maxRecDepth 100000 in
set_option maxHeartbeats 16000000 in
theorem add_walkE (V : MRule Wg R D F) (hT : Gs Try.prog true R D Stop F (G (b₀.at (a₀.put ((ops₀[i₀]?).bind (·.dst)) (.tuple #[])) (.inRegion ops₀ rest₀ :: k₀)) cs)) :
  Gs Try.prog true R D (MKd R D Wg Stop) F (G ((base 73).at ⟨#[.pointer (some ⟨Wg, 0, none⟩), .int .i64 1] ++ Array.replicate 115 undef, []⟩ [.code c73]) (b₀.at a₀ (.inRegion ops₀ (i₀ :: rest₀) :: k₀) :: cs)) := by
 have U := V.toRule
 have hcell : ∀ w, F w → ∃ v, w.cell? ⟨Wg, 0, none⟩ = some v := fun w h => let ⟨_, _, h⟩ := V.live w h; ⟨_, h.cellSt⟩
 have hcell1 : ∀ w, F w → ∃ v, w.cell? ⟨Wg, 1, none⟩ = some v := fun w h => let ⟨_, _, h⟩ := V.live w h; ⟨_, h.cellSm⟩
 refine (?_ : GE Try.prog true R D (MKd R D Wg Stop) F (base 73) _ 117 [] [(0, .pointer (some ⟨Wg, 0, none⟩)), (1, .int .i64 1)] [.code c73]) _ (by simp) (looks2 _ _ _)
 simp only [c73, Try.f73, Option.getD_some]
 repeat (first
  | refine GE.mv U rfl rfl rfl (by k_ne) rfl rfl ?_
  | refine GE.bin U rfl rfl rfl (by k_ne) rfl rfl rfl rfl ?_
  | refine GE.regionEnd U ?_
  | refine GE.seq U ?_
  | refine GE.region _ U rfl ?_
  | (refine GE.cond true U rfl ?_; simp only [if_true, if_false, Bool.false_eq_true, ↓reduceIte])
  | (refine GE.cond false U rfl ?_; simp only [if_true, if_false, Bool.false_eq_true, ↓reduceIte])
  | refine GE.skip U ?_)
 intro T1 hT1 hlT1
 refine Gs.stop U fun w hw => ⟨rfl, _, stepG_mark0 .disable (by simp) rfl (hlT1.want rfl) (by k_ne) rfl Try.func93 x93_n x93_b x93_x x93_f, Gs.runs (F := F) (GE.put rfl hT1 hlT1 ?_) hw⟩
 repeat (first
  | refine GE.mv U rfl rfl rfl (by k_ne) rfl rfl ?_
  | refine GE.bin U rfl rfl rfl (by k_ne) rfl rfl rfl rfl ?_
  | refine GE.as U rfl rfl rfl (by k_ne) rfl rfl ?_
  | refine GE.regionEnd U ?_
  | refine GE.seq U ?_
  | refine GE.region _ U rfl ?_
  | (refine GE.cond false U rfl ?_; simp only [if_true, if_false, Bool.false_eq_true, ↓reduceIte])
  | refine GE.skip U ?_
  | refine GE.nil U rfl rfl rfl (by k_ne) rfl rfl ?_
  | refine GE.fa U rfl rfl rfl (by k_ne) rfl rfl (fun w hw => by go_simp; (try rfl)) (fun w hw => by simp [go_sem]) ?_
  | refine GE.cv U rfl rfl rfl (by k_ne) rfl rfl (fun w hw => by go_simp; (try rfl)) (fun w hw => by simp [go_sem]) ?_
  | refine GE.pure (v := .bool false) U rfl rfl rfl (by k_ne) rfl Try.func95 x95_n x95_b x95_x x95_f ?_
  | refine GE.defer #[] U rfl rfl rfl (by k_ne) rfl (fun e he => by simp) ?_)
 refine GE.call #[.pointer (some ⟨Wg, 0, none⟩), .int .u64 4294967296] U rfl rfl rfl (by k_ne) Try.func99 nm99 body99 (fun e he => by simp [he (.tmp 39) _ rfl, he (.tmp 42) _ rfl] <;> rfl) fun T2 hT2 hlT2 => ?_
 refine (?_ : GE Try.prog true _ _ _ _ (base 99) _ 10 [] [(0, .pointer (some ⟨Wg, 0, none⟩)), (1, .int .u64 4294967296)] [.code c99]) _ (by simp) (looks2 _ _ _)
 simp only [c99, Try.f99, Option.getD_some]
 repeat (first
  | refine GE.mv U rfl rfl rfl (by k_ne) rfl rfl ?_
  | refine GE.as U rfl rfl rfl (by k_ne) rfl rfl ?_
  | refine GE.regionEnd U ?_
  | refine GE.seq U ?_
  | refine GE.region _ U rfl ?_
  | refine GE.nil U rfl rfl rfl (by k_ne) rfl rfl ?_
  | refine GE.fa U rfl rfl rfl (by k_ne) rfl rfl (fun w hw => by go_simp; (try rfl)) (fun w hw => by simp [go_sem]) ?_)
 intro T3 hT3 hl3
 refine Gs.stop U fun w hw => ⟨rfl, fun v hv hat => ?_⟩
 rcases (show v = 0 ∨ v = 1 by omega) with rfl | rfl
 ·have hat' : WgAt 108 Wg w 0 0 := by simpa [KK] using hat
  refine ⟨_, (stepG_add_atomic (v := 0) rfl (hl3.want rfl) (by k_ne) rfl Try.func118 x118_n x118_b x118_x .u64 x118_f (hl3.ev rfl) (hl3.ev rfl) hat'.cellSt (hat'.thaw 0)).trans (by rfl), Gs.runs (F := F) (GE.put rfl hT3 hl3 ?_) (V.st _ _ hw)⟩
  clear hat hat'
  repeat (first
   | refine GE.as U rfl rfl rfl (by k_ne) rfl rfl ?_
   | refine GE.regionEnd U ?_)
  refine GE.ret1 U rfl Try.func99 rfl rfl (GE.put rfl hT2 hlT2 ?_)
  refine GE.to [(43, .int .u64 4294967296), (0, .pointer (some ⟨Wg, 0, none⟩)), (1, .int .i64 1), (4, .bool false)] ⟨rfl, rfl, rfl, rfl, trivial⟩ ?_
  repeat (first
   | refine GE.mv U rfl rfl rfl (by k_ne) rfl rfl ?_
   | refine GE.bin U rfl rfl rfl (by k_ne) rfl rfl rfl rfl ?_
   | refine GE.as U rfl rfl rfl (by k_ne) rfl rfl ?_
   | refine GE.regionEnd U ?_
   | refine GE.seq U ?_
   | refine GE.region _ U rfl ?_
   | refine GE.unwanted U rfl rfl rfl ?_
   | refine GE.pick U rfl rfl rfl (by k_ne) rfl rfl rfl ?_
   | (refine GE.cond true U rfl ?_; simp only [if_true, if_false, Bool.false_eq_true, ↓reduceIte])
   | (refine GE.cond false U rfl ?_; simp only [if_true, if_false, Bool.false_eq_true, ↓reduceIte])
   | refine GE.skip U ?_
   | refine GE.nil U rfl rfl rfl (by k_ne) rfl rfl ?_
   | refine GE.fa U rfl rfl rfl (by k_ne) rfl rfl (fun w hw => by go_simp; (try rfl)) (fun w hw => by simp [go_sem]) ?_
   | refine GE.cv U rfl rfl rfl (by k_ne) rfl rfl (v := .pointer (some ⟨Wg, 1, none⟩)) (fun w hw => by obtain ⟨v, hc⟩ := hcell1 w hw; exact run_convert_to_unsafe (P := Try.prog) Try.underlying129 Try.underlying124 room78 hc) (fun w hw => by obtain ⟨v, hc⟩ := hcell1 w hw; exact events_convert_to_unsafe (P := Try.prog) Try.underlying129 Try.underlying124 room78 hc _) ?_
   | refine GE.cv U rfl rfl rfl (by k_ne) rfl rfl (fun w hw => by go_simp; (try rfl)) (fun w hw => by simp [go_sem]) ?_)
  refine GE.turn (v := .tuple #[]) U ?hd (fun T hT hl w hw => ⟨w, _, stepG_markAt .read (by simp) rfl (hl.want rfl) (by k_ne) rfl Try.func100 x100_n x100_b x100_x x100_f (ad := ⟨Wg, 1, none⟩) (by have h := hl 71 _ rfl; simp [Act.eval, h]), V.sayr w hw, hw⟩) ?_
  case hd => rfl
  repeat (first
   | refine GE.mv U rfl rfl rfl (by k_ne) rfl rfl ?_
   | refine GE.bin U rfl rfl rfl (by k_ne) rfl rfl rfl rfl ?_
   | refine GE.regionEnd U ?_
   | refine GE.seq U ?_
   | refine GE.region _ U rfl ?_
   | refine GE.unwanted U rfl rfl rfl ?_
   | refine GE.pick U rfl rfl rfl (by k_ne) rfl rfl rfl ?_
   | (refine GE.cond true U rfl ?_; simp only [if_true, if_false, Bool.false_eq_true, ↓reduceIte])
   | (refine GE.cond false U rfl ?_; simp only [if_true, if_false, Bool.false_eq_true, ↓reduceIte])
   | refine GE.skip U ?_)
  intro T4 hT4 hl4
  refine Gs.ret U ?_
  refine Gs.stop U fun w hw => ⟨rfl, _, step_enable rfl, Gs.runs (F := F) ?_ hw⟩
  refine Gs.leave0 U rfl rfl Try.func73 rfl ?_
  exact hT
 ·have hat' : WgAt 108 Wg w 4294967296 0 := by simpa [KK] using hat
  refine ⟨_, (stepG_add_atomic (v := 4294967296) rfl (hl3.want rfl) (by k_ne) rfl Try.func118 x118_n x118_b x118_x .u64 x118_f (hl3.ev rfl) (hl3.ev rfl) hat'.cellSt (hat'.thaw 0)).trans (by rfl), Gs.runs (F := F) (GE.put rfl hT3 hl3 ?_) (V.st _ _ hw)⟩
  clear hat hat'
  repeat (first
   | refine GE.as U rfl rfl rfl (by k_ne) rfl rfl ?_
   | refine GE.regionEnd U ?_)
  refine GE.ret1 U rfl Try.func99 rfl rfl (GE.put rfl hT2 hlT2 ?_)
  refine GE.to [(43, .int .u64 8589934592), (0, .pointer (some ⟨Wg, 0, none⟩)), (1, .int .i64 1), (4, .bool false)] ⟨rfl, rfl, rfl, rfl, trivial⟩ ?_
  repeat (first
   | refine GE.mv U rfl rfl rfl (by k_ne) rfl rfl ?_
   | refine GE.bin U rfl rfl rfl (by k_ne) rfl rfl rfl rfl ?_
   | refine GE.as U rfl rfl rfl (by k_ne) rfl rfl ?_
   | refine GE.regionEnd U ?_
   | refine GE.seq U ?_
   | refine GE.region _ U rfl ?_
   | refine GE.unwanted U rfl rfl rfl ?_
   | refine GE.pick U rfl rfl rfl (by k_ne) rfl rfl rfl ?_
   | (refine GE.cond true U rfl ?_; simp only [if_true, if_false, Bool.false_eq_true, ↓reduceIte])
   | (refine GE.cond false U rfl ?_; simp only [if_true, if_false, Bool.false_eq_true, ↓reduceIte])
   | refine GE.skip U ?_
   | refine GE.cv U rfl rfl rfl (by k_ne) rfl rfl (fun w hw => by go_simp; (try rfl)) (fun w hw => by simp [go_sem]) ?_)
  intro T4 hT4 hl4
  refine Gs.ret U ?_
  refine Gs.stop U fun w hw => ⟨rfl, _, step_enable rfl, Gs.runs (F := F) ?_ hw⟩
  refine Gs.leave0 U rfl rfl Try.func73 rfl ?_
  exact hT
set_option maxRecDepth 100000 in
set_option maxHeartbeats 16000000 in
theorem wait_roundE (V : MRule Wg R D F) (hT : Gs Try.prog true R D Stop F (G (b₀.at (a₀.put ((ops₀[i₀]?).bind (·.dst)) (.tuple #[])) (.inRegion ops₀ rest₀ :: k₀)) cs)) (n : Nat) :
  GE Try.prog true R D (W1 R D Wg Stop n) F (base 77) (b₀.at a₀ (.inRegion ops₀ (i₀ :: rest₀) :: k₀) :: cs) 84 [] [(0, .pointer (some ⟨Wg, 0, none⟩))] [.code L77, .inLoop L77, .inBlock 0] := by
 have U := V.toRule
 have hcell : ∀ w, F w → ∃ v, w.cell? ⟨Wg, 0, none⟩ = some v := fun w h => let ⟨_, _, h⟩ := V.live w h; ⟨_, h.cellSt⟩
 have hcell1 : ∀ w, F w → ∃ v, w.cell? ⟨Wg, 1, none⟩ = some v := fun w h => let ⟨_, _, h⟩ := V.live w h; ⟨_, h.cellSm⟩
 simp only [L77, c77, Try.f77, Option.getD_some, cR, cB, cLp]
 induction n with
 | zero =>
  repeat (first
   | refine GE.mv U rfl rfl rfl (by k_ne) rfl rfl ?_
   | refine GE.seq U ?_
   | refine GE.region _ U rfl ?_
   | refine GE.nil U rfl rfl rfl (by k_ne) rfl rfl ?_
   | refine GE.fa U rfl rfl rfl (by k_ne) rfl rfl (fun w hw => by go_simp; (try rfl)) (fun w hw => by simp [go_sem]) ?_
   | refine GE.block U ?_)
  refine GE.call #[.pointer (some ⟨Wg, 0, none⟩)] U rfl rfl rfl (by k_ne) Try.func101 nm101 body101 (fun e he => by simp [he (.tmp 10) _ rfl] <;> rfl) fun T1 hT1 hlT1 => ?_
  refine (?_ : GE Try.prog true _ _ _ _ (base 101) _ 7 [] [(0, .pointer (some ⟨Wg, 0, none⟩))] [.code c101]) _ (by simp) (looks1 _ _)
  simp only [c101, Try.f101, Option.getD_some]
  repeat (first
   | refine GE.mv U rfl rfl rfl (by k_ne) rfl rfl ?_
   | refine GE.as U rfl rfl rfl (by k_ne) rfl rfl ?_
   | refine GE.regionEnd U ?_
   | refine GE.seq U ?_
   | refine GE.region _ U rfl ?_
   | refine GE.nil U rfl rfl rfl (by k_ne) rfl rfl ?_
   | refine GE.fa U rfl rfl rfl (by k_ne) rfl rfl (fun w hw => by go_simp; (try rfl)) (fun w hw => by simp [go_sem]) ?_)
  intro T2 hT2 hl2
  refine Gs.stop U fun w hw => ⟨rfl, fun hat => ?_⟩
  refine ⟨_, stepG_load_atomic (v := 0) rfl (hl2.want rfl) (by k_ne) rfl Try.func119 x119_n x119_b x119_x .u64 x119_f (hl2.ev rfl) hat.cellSt, Gs.runs (F := F) (GE.put rfl hT2 hl2 ?_) hw⟩
  repeat (first
   | refine GE.as U rfl rfl rfl (by k_ne) rfl rfl ?_
   | refine GE.regionEnd U ?_)
  refine GE.ret1 U rfl Try.func101 rfl rfl (GE.put rfl hT1 hlT1 ?_)
  refine GE.to [(11, .int .u64 0), (0, .pointer (some ⟨Wg, 0, none⟩))] ⟨rfl, rfl, trivial⟩ ?_
  repeat (first
   | refine GE.mv U rfl rfl rfl (by k_ne) rfl rfl ?_
   | refine GE.bin U rfl rfl rfl (by k_ne) rfl rfl rfl rfl ?_
   | refine GE.as U rfl rfl rfl (by k_ne) rfl rfl ?_
   | refine GE.regionEnd U ?_
   | refine GE.seq U ?_
   | refine GE.region _ U rfl ?_
   | refine GE.unwanted U rfl rfl rfl ?_
   | refine GE.pick U rfl rfl rfl (by k_ne) rfl rfl rfl ?_
   | (refine GE.cond true U rfl ?_; simp only [if_true, if_false, Bool.false_eq_true, ↓reduceIte])
   | (refine GE.cond false U rfl ?_; simp only [if_true, if_false, Bool.false_eq_true, ↓reduceIte])
   | refine GE.skip U ?_
   | refine GE.cv U rfl rfl rfl (by k_ne) rfl rfl (v := .pointer (some ⟨Wg, 0, none⟩)) (fun w hw => by obtain ⟨v, hc⟩ := hcell w hw; exact run_convert_to_unsafe (P := Try.prog) Try.underlying122 Try.underlying124 room108 hc) (fun w hw => by obtain ⟨v, hc⟩ := hcell w hw; exact events_convert_to_unsafe (P := Try.prog) Try.underlying122 Try.underlying124 room108 hc _) ?_
   | refine GE.cv U rfl rfl rfl (by k_ne) rfl rfl (fun w hw => by go_simp; (try rfl)) (fun w hw => by simp [go_sem]) ?_
   | exact GE.ret0 U rfl Try.func77 rfl hT
   | (intro Ta hTa hla; refine Gs.stop U fun w hw => ⟨rfl, _, stepG_mark0 .enable (by simp) rfl (hla.want rfl) (by k_ne) rfl Try.func94 x94_n x94_b x94_x x94_f, Gs.runs (F := F) (GE.put rfl hTa hla ?_) hw⟩)
   | (intro Ta hTa hla; refine Gs.stop U fun w hw => ⟨rfl, _, stepG_markAt .acquire (by simp) rfl (hla.want rfl) (by k_ne) rfl Try.func107 x107_n x107_b x107_x x107_f (by have h := hla 22 _ rfl; simp [Act.eval, stA, h]), Gs.runs (F := F) (GE.put rfl hTa hla ?_) hw⟩))
 | succ n ih =>
  repeat (first
   | refine GE.mv U rfl rfl rfl (by k_ne) rfl rfl ?_
   | refine GE.seq U ?_
   | refine GE.region _ U rfl ?_
   | refine GE.nil U rfl rfl rfl (by k_ne) rfl rfl ?_
   | refine GE.fa U rfl rfl rfl (by k_ne) rfl rfl (fun w hw => by go_simp; (try rfl)) (fun w hw => by simp [go_sem]) ?_
   | refine GE.block U ?_)
  refine GE.call #[.pointer (some ⟨Wg, 0, none⟩)] U rfl rfl rfl (by k_ne) Try.func101 nm101 body101 (fun e he => by simp [he (.tmp 10) _ rfl] <;> rfl) fun T1 hT1 hlT1 => ?_
  refine (?_ : GE Try.prog true _ _ _ _ (base 101) _ 7 [] [(0, .pointer (some ⟨Wg, 0, none⟩))] [.code c101]) _ (by simp) (looks1 _ _)
  simp only [c101, Try.f101, Option.getD_some]
  repeat (first
   | refine GE.mv U rfl rfl rfl (by k_ne) rfl rfl ?_
   | refine GE.as U rfl rfl rfl (by k_ne) rfl rfl ?_
   | refine GE.regionEnd U ?_
   | refine GE.seq U ?_
   | refine GE.region _ U rfl ?_
   | refine GE.nil U rfl rfl rfl (by k_ne) rfl rfl ?_
   | refine GE.fa U rfl rfl rfl (by k_ne) rfl rfl (fun w hw => by go_simp; (try rfl)) (fun w hw => by simp [go_sem]) ?_)
  intro T2 hT2 hl2
  refine Gs.stop U fun w hw => ⟨rfl, fun v hv hv2 hat => ?_⟩
  rcases (show v = 0 ∨ v = 1 ∨ v = 2 by omega) with rfl | rfl | rfl
  ·have hat' : WgAt 108 Wg w 0 0 := by simpa [KK] using hat
   refine ⟨_, stepG_load_atomic (v := 0) rfl (hl2.want rfl) (by k_ne) rfl Try.func119 x119_n x119_b x119_x .u64 x119_f (hl2.ev rfl) hat'.cellSt, fun _ => Gs.runs (F := F) (GE.put rfl hT2 hl2 ?_) hw, fun h => absurd rfl h⟩
   clear hat hat'
   repeat (first
    | refine GE.as U rfl rfl rfl (by k_ne) rfl rfl ?_
    | refine GE.regionEnd U ?_)
   refine GE.ret1 U rfl Try.func101 rfl rfl (GE.put rfl hT1 hlT1 ?_)
   refine GE.to [(11, .int .u64 0), (0, .pointer (some ⟨Wg, 0, none⟩))] ⟨rfl, rfl, trivial⟩ ?_
   repeat (first
    | refine GE.mv U rfl rfl rfl (by k_ne) rfl rfl ?_
    | refine GE.bin U rfl rfl rfl (by k_ne) rfl rfl rfl rfl ?_
    | refine GE.as U rfl rfl rfl (by k_ne) rfl rfl ?_
    | refine GE.regionEnd U ?_
    | refine GE.seq U ?_
    | refine GE.region _ U rfl ?_
    | refine GE.unwanted U rfl rfl rfl ?_
    | refine GE.pick U rfl rfl rfl (by k_ne) rfl rfl rfl ?_
    | (refine GE.cond true U rfl ?_; simp only [if_true, if_false, Bool.false_eq_true, ↓reduceIte])
    | (refine GE.cond false U rfl ?_; simp only [if_true, if_false, Bool.false_eq_true, ↓reduceIte])
    | refine GE.skip U ?_
    | refine GE.cv U rfl rfl rfl (by k_ne) rfl rfl (v := .pointer (some ⟨Wg, 0, none⟩)) (fun w hw => by obtain ⟨v, hc⟩ := hcell w hw; exact run_convert_to_unsafe (P := Try.prog) Try.underlying122 Try.underlying124 room108 hc) (fun w hw => by obtain ⟨v, hc⟩ := hcell w hw; exact events_convert_to_unsafe (P := Try.prog) Try.underlying122 Try.underlying124 room108 hc _) ?_
    | refine GE.cv U rfl rfl rfl (by k_ne) rfl rfl (fun w hw => by go_simp; (try rfl)) (fun w hw => by simp [go_sem]) ?_
    | exact GE.ret0 U rfl Try.func77 rfl hT
    | (intro Ta hTa hla; refine Gs.stop U fun w hw => ⟨rfl, _, stepG_mark0 .enable (by simp) rfl (hla.want rfl) (by k_ne) rfl Try.func94 x94_n x94_b x94_x x94_f, Gs.runs (F := F) (GE.put rfl hTa hla ?_) hw⟩)
    | (intro Ta hTa hla; refine Gs.stop U fun w hw => ⟨rfl, _, stepG_markAt .acquire (by simp) rfl (hla.want rfl) (by k_ne) rfl Try.func107 x107_n x107_b x107_x x107_f (by have h := hla 22 _ rfl; simp [Act.eval, stA, h]), Gs.runs (F := F) (GE.put rfl hTa hla ?_) hw⟩))
  ·have hat' : WgAt 108 Wg w 4294967296 0 := by simpa [KK] using hat
   refine ⟨_, stepG_load_atomic (v := 4294967296) rfl (hl2.want rfl) (by k_ne) rfl Try.func119 x119_n x119_b x119_x .u64 x119_f (hl2.ev rfl) hat'.cellSt, fun h => absurd h (by decide), fun _ => Gs.runs (F := F) (GE.put rfl hT2 hl2 ?_) hw⟩
   clear hat hat'
   repeat (first
    | refine GE.as U rfl rfl rfl (by k_ne) rfl rfl ?_
    | refine GE.regionEnd U ?_)
   refine GE.ret1 U rfl Try.func101 rfl rfl (GE.put rfl hT1 hlT1 ?_)
   refine GE.to [(11, .int .u64 4294967296), (0, .pointer (some ⟨Wg, 0, none⟩))] ⟨rfl, rfl, trivial⟩ ?_
   repeat (first
    | refine GE.mv U rfl rfl rfl (by k_ne) rfl rfl ?_
    | refine GE.bin U rfl rfl rfl (by k_ne) rfl rfl rfl rfl ?_
    | refine GE.as U rfl rfl rfl (by k_ne) rfl rfl ?_
    | refine GE.regionEnd U ?_
    | refine GE.seq U ?_
    | refine GE.region _ U rfl ?_
    | (refine GE.cond false U rfl ?_; simp only [if_true, if_false, Bool.false_eq_true, ↓reduceIte])
    | refine GE.skip U ?_
    | refine GE.nil U rfl rfl rfl (by k_ne) rfl rfl ?_
    | refine GE.fa U rfl rfl rfl (by k_ne) rfl rfl (fun w hw => by go_simp; (try rfl)) (fun w hw => by simp [go_sem]) ?_
    | refine GE.cv U rfl rfl rfl (by k_ne) rfl rfl (fun w hw => by go_simp; (try rfl)) (fun w hw => by simp [go_sem]) ?_)
   refine GE.call #[.pointer (some ⟨Wg, 0, none⟩), .int .u64 4294967296, .int .u64 4294967297] U rfl rfl rfl (by k_ne) Try.func109 nm109 body109 (fun e he => by simp [he (.tmp 44) _ rfl, he (.tmp 45) _ rfl, he (.tmp 47) _ rfl] <;> rfl) fun T3 hT3 hlT3 => ?_
   refine (?_ : GE Try.prog true _ _ _ _ (base 109) _ 13 [] [(0, .pointer (some ⟨Wg, 0, none⟩)), (1, .int .u64 4294967296), (2, .int .u64 4294967297)] [.code c109]) _ (by simp) (looks3 _ _ _ _)
   simp only [c109, Try.f109, Option.getD_some]
   repeat (first
    | refine GE.mv U rfl rfl rfl (by k_ne) rfl rfl ?_
    | refine GE.as U rfl rfl rfl (by k_ne) rfl rfl ?_
    | refine GE.regionEnd U ?_
    | refine GE.seq U ?_
    | refine GE.region _ U rfl ?_
    | refine GE.nil U rfl rfl rfl (by k_ne) rfl rfl ?_
    | refine GE.fa U rfl rfl rfl (by k_ne) rfl rfl (fun w hw => by go_simp; (try rfl)) (fun w hw => by simp [go_sem]) ?_)
   intro T4 hT4 hl4
   refine Gs.stop U fun w hw => ⟨rfl, fun v' hv' hat => ⟨fun e => ?_, fun e => ?_⟩⟩
   ·subst e
    have hat' : WgAt 108 Wg w 4294967296 0 := by simpa [KK] using hat
    refine ⟨_, (stepG_cas_hit (v := 4294967296) (n := 4294967297) rfl (hl4.want rfl) (by k_ne) rfl Try.func123 x123_n x123_b x123_x .u64 x123_f (hl4.ev rfl) (hl4.ev rfl) (hl4.ev rfl) hat'.cellSt (hat'.thaw 0)).trans (by rfl), Gs.runs (F := F) (GE.put rfl hT4 hl4 ?_) (V.st _ _ hw)⟩
    clear hat hat'
    repeat (first
     | refine GE.as U rfl rfl rfl (by k_ne) rfl rfl ?_
     | refine GE.regionEnd U ?_)
    refine GE.ret1 U rfl Try.func109 rfl rfl (GE.put rfl hT3 hlT3 ?_)
    refine GE.to [(48, .bool true), (0, .pointer (some ⟨Wg, 0, none⟩)), (2, .int .u64 4294967296), (4, .int .u32 0)] ⟨rfl, rfl, rfl, rfl, trivial⟩ ?_
    repeat (first
     | refine GE.mv U rfl rfl rfl (by k_ne) rfl rfl ?_
     | refine GE.bin U rfl rfl rfl (by k_ne) rfl rfl rfl rfl ?_
     | refine GE.regionEnd U ?_
     | refine GE.seq U ?_
     | refine GE.region _ U rfl ?_
     | refine GE.pick U rfl rfl rfl (by k_ne) rfl rfl rfl ?_
     | (refine GE.cond true U rfl ?_; simp only [if_true, if_false, Bool.false_eq_true, ↓reduceIte])
     | refine GE.nil U rfl rfl rfl (by k_ne) rfl rfl ?_
     | refine GE.fa U rfl rfl rfl (by k_ne) rfl rfl (fun w hw => by go_simp; (try rfl)) (fun w hw => by simp [go_sem]) ?_
     | refine GE.cv U rfl rfl rfl (by k_ne) rfl rfl (v := .pointer (some ⟨Wg, 1, none⟩)) (fun w hw => by obtain ⟨v, hc⟩ := hcell1 w hw; exact run_convert_to_unsafe (P := Try.prog) Try.underlying129 Try.underlying124 room78 hc) (fun w hw => by obtain ⟨v, hc⟩ := hcell1 w hw; exact events_convert_to_unsafe (P := Try.prog) Try.underlying129 Try.underlying124 room78 hc _) ?_)
    refine GE.turn (v := .tuple #[]) U ?hd (fun T hT hl w hw => ⟨w, _, stepG_markAt .write (by simp) rfl (hl.want rfl) (by k_ne) rfl Try.func110 x110_n x110_b x110_x x110_f (ad := ⟨Wg, 1, none⟩) (by have h := hl 56 _ rfl; simp [Act.eval, h]), V.sayw w hw, hw⟩) ?_
    case hd => rfl
    repeat (first
     | refine GE.mv U rfl rfl rfl (by k_ne) rfl rfl ?_
     | refine GE.bin U rfl rfl rfl (by k_ne) rfl rfl rfl rfl ?_
     | refine GE.as U rfl rfl rfl (by k_ne) rfl rfl ?_
     | refine GE.regionEnd U ?_
     | refine GE.seq U ?_
     | refine GE.region _ U rfl ?_
     | refine GE.unwanted U rfl rfl rfl ?_
     | refine GE.pick U rfl rfl rfl (by k_ne) rfl rfl rfl ?_
     | (refine GE.cond false U rfl ?_; simp only [if_true, if_false, Bool.false_eq_true, ↓reduceIte])
     | refine GE.skip U ?_
     | refine GE.nil U rfl rfl rfl (by k_ne) rfl rfl ?_
     | refine GE.fa U rfl rfl rfl (by k_ne) rfl rfl (fun w hw => by go_simp; (try rfl)) (fun w hw => by simp [go_sem]) ?_)
    intro T5 hT5 hl5
    refine Gs.stop U fun w hw => ⟨rfl, rfl, fun ⟨st, hat⟩ => stepG_semacquire_wait rfl (hl5.want rfl) rfl Try.func111 x111_n x111_b x111_x x111_f (by have h := hl5 70 _ rfl; simp [Act.eval, smA, h]) hat.cellSm, fun hat => ?_⟩
    refine ⟨_, (stepG_semacquire (n := 1) rfl (hl5.want rfl) (by k_ne) rfl Try.func111 x111_n x111_b x111_x x111_f (by have h := hl5 70 _ rfl; simp [Act.eval, smA, h]) hat.cellSm (by decide) (hat.thaw 1)).trans (by rfl), Gs.runs (F := F) (GE.put rfl hT5 hl5 ?_) (V.sm _ _ hw)⟩
    clear hat
    repeat (first
     | refine GE.mv U rfl rfl rfl (by k_ne) rfl rfl ?_
     | refine GE.regionEnd U ?_
     | refine GE.seq U ?_
     | refine GE.region _ U rfl ?_
     | refine GE.nil U rfl rfl rfl (by k_ne) rfl rfl ?_
     | refine GE.fa U rfl rfl rfl (by k_ne) rfl rfl (fun w hw => by go_simp; (try rfl)) (fun w hw => by simp [go_sem]) ?_)
    refine GE.call #[.pointer (some ⟨Wg, 0, none⟩)] U rfl rfl rfl (by k_ne) Try.func101 nm101 body101 (fun e he => by simp [he (.tmp 75) _ rfl] <;> rfl) fun T6 hT6 hlT6 => ?_
    refine (?_ : GE Try.prog true _ _ _ _ (base 101) _ 7 [] [(0, .pointer (some ⟨Wg, 0, none⟩))] [.code c101]) _ (by simp) (looks1 _ _)
    simp only [c101, Try.f101, Option.getD_some]
    repeat (first
     | refine GE.mv U rfl rfl rfl (by k_ne) rfl rfl ?_
     | refine GE.as U rfl rfl rfl (by k_ne) rfl rfl ?_
     | refine GE.regionEnd U ?_
     | refine GE.seq U ?_
     | refine GE.region _ U rfl ?_
     | refine GE.nil U rfl rfl rfl (by k_ne) rfl rfl ?_
     | refine GE.fa U rfl rfl rfl (by k_ne) rfl rfl (fun w hw => by go_simp; (try rfl)) (fun w hw => by simp [go_sem]) ?_)
    intro T7 hT7 hl7
    refine Gs.stop U fun w hw => ⟨rfl, fun hat => ?_⟩
    refine ⟨_, stepG_load_atomic (v := 0) rfl (hl7.want rfl) (by k_ne) rfl Try.func119 x119_n x119_b x119_x .u64 x119_f (hl7.ev rfl) hat.cellSt, Gs.runs (F := F) (GE.put rfl hT7 hl7 ?_) hw⟩
    repeat (first
     | refine GE.as U rfl rfl rfl (by k_ne) rfl rfl ?_
     | refine GE.regionEnd U ?_)
    refine GE.ret1 U rfl Try.func101 rfl rfl (GE.put rfl hT6 hlT6 ?_)
    refine GE.to [(76, .int .u64 0), (0, .pointer (some ⟨Wg, 0, none⟩))] ⟨rfl, rfl, trivial⟩ ?_
    repeat (first
     | refine GE.mv U rfl rfl rfl (by k_ne) rfl rfl ?_
     | refine GE.bin U rfl rfl rfl (by k_ne) rfl rfl rfl rfl ?_
     | refine GE.as U rfl rfl rfl (by k_ne) rfl rfl ?_
     | refine GE.regionEnd U ?_
     | refine GE.seq U ?_
     | refine GE.region _ U rfl ?_
     | (refine GE.cond true U rfl ?_; simp only [if_true, if_false, Bool.false_eq_true, ↓reduceIte])
     | (refine GE.cond false U rfl ?_; simp only [if_true, if_false, Bool.false_eq_true, ↓reduceIte])
     | refine GE.skip U ?_
     | refine GE.cv U rfl rfl rfl (by k_ne) rfl rfl (v := .pointer (some ⟨Wg, 0, none⟩)) (fun w hw => by obtain ⟨v, hc⟩ := hcell w hw; exact run_convert_to_unsafe (P := Try.prog) Try.underlying122 Try.underlying124 room108 hc) (fun w hw => by obtain ⟨v, hc⟩ := hcell w hw; exact events_convert_to_unsafe (P := Try.prog) Try.underlying122 Try.underlying124 room108 hc _) ?_
     | exact GE.ret0 U rfl Try.func77 rfl hT
     | (intro Ta hTa hla; refine Gs.stop U fun w hw => ⟨rfl, _, stepG_mark0 .enable (by simp) rfl (hla.want rfl) (by k_ne) rfl Try.func94 x94_n x94_b x94_x x94_f, Gs.runs (F := F) (GE.put rfl hTa hla ?_) hw⟩)
     | (intro Ta hTa hla; refine Gs.stop U fun w hw => ⟨rfl, _, stepG_markAt .acquire (by simp) rfl (hla.want rfl) (by k_ne) rfl Try.func107 x107_n x107_b x107_x x107_f (by have h := hla 80 _ rfl; simp [Act.eval, stA, h]), Gs.runs (F := F) (GE.put rfl hTa hla ?_) hw⟩))
   ·have hat' : WgAt 108 Wg w (((v' : Nat) : Int) * KK) 0 := hat
    refine ⟨_, stepG_cas_miss (v := (v' : Int) * KK) (old := 4294967296) (n := 4294967297) rfl (hl4.want rfl) (by k_ne) rfl Try.func123 x123_n x123_b x123_x .u64 x123_f (hl4.ev rfl) (hl4.ev rfl) (hl4.ev rfl) hat.cellSt (hat.thaw 0) (by simp only [KK]; omega), Gs.runs (F := F) (GE.put rfl hT4 hl4 ?_) hw⟩
    clear hat hat'
    repeat (first
     | refine GE.as U rfl rfl rfl (by k_ne) rfl rfl ?_
     | refine GE.regionEnd U ?_)
    refine GE.ret1 U rfl Try.func109 rfl rfl (GE.put rfl hT3 hlT3 ?_)
    refine GE.to [(48, .bool false), (0, .pointer (some ⟨Wg, 0, none⟩))] ⟨rfl, rfl, trivial⟩ ?_
    repeat (first
     | refine GE.regionEnd U ?_
     | (refine GE.cond false U rfl ?_; simp only [if_true, if_false, Bool.false_eq_true, ↓reduceIte])
     | refine GE.skip U ?_
     | refine GE.inBlock U ?_)
    refine GE.inLoop U ?_
    refine GE.to [(0, .pointer (some ⟨Wg, 0, none⟩))] ⟨rfl, trivial⟩ ?_
    exact ih
  ·have hat' : WgAt 108 Wg w 8589934592 0 := by simpa [KK] using hat
   refine ⟨_, stepG_load_atomic (v := 8589934592) rfl (hl2.want rfl) (by k_ne) rfl Try.func119 x119_n x119_b x119_x .u64 x119_f (hl2.ev rfl) hat'.cellSt, fun h => absurd h (by decide), fun _ => Gs.runs (F := F) (GE.put rfl hT2 hl2 ?_) hw⟩
   clear hat hat'
   repeat (first
    | refine GE.as U rfl rfl rfl (by k_ne) rfl rfl ?_
    | refine GE.regionEnd U ?_)
   refine GE.ret1 U rfl Try.func101 rfl rfl (GE.put rfl hT1 hlT1 ?_)
   refine GE.to [(11, .int .u64 8589934592), (0, .pointer (some ⟨Wg, 0, none⟩))] ⟨rfl, rfl, trivial⟩ ?_
   repeat (first
    | refine GE.mv U rfl rfl rfl (by k_ne) rfl rfl ?_
    | refine GE.bin U rfl rfl rfl (by k_ne) rfl rfl rfl rfl ?_
    | refine GE.as U rfl rfl rfl (by k_ne) rfl rfl ?_
    | refine GE.regionEnd U ?_
    | refine GE.seq U ?_
    | refine GE.region _ U rfl ?_
    | (refine GE.cond false U rfl ?_; simp only [if_true, if_false, Bool.false_eq_true, ↓reduceIte])
    | refine GE.skip U ?_
    | refine GE.nil U rfl rfl rfl (by k_ne) rfl rfl ?_
    | refine GE.fa U rfl rfl rfl (by k_ne) rfl rfl (fun w hw => by go_simp; (try rfl)) (fun w hw => by simp [go_sem]) ?_
    | refine GE.cv U rfl rfl rfl (by k_ne) rfl rfl (fun w hw => by go_simp; (try rfl)) (fun w hw => by simp [go_sem]) ?_)
   refine GE.call #[.pointer (some ⟨Wg, 0, none⟩), .int .u64 8589934592, .int .u64 8589934593] U rfl rfl rfl (by k_ne) Try.func109 nm109 body109 (fun e he => by simp [he (.tmp 44) _ rfl, he (.tmp 45) _ rfl, he (.tmp 47) _ rfl] <;> rfl) fun T3 hT3 hlT3 => ?_
   refine (?_ : GE Try.prog true _ _ _ _ (base 109) _ 13 [] [(0, .pointer (some ⟨Wg, 0, none⟩)), (1, .int .u64 8589934592), (2, .int .u64 8589934593)] [.code c109]) _ (by simp) (looks3 _ _ _ _)
   simp only [c109, Try.f109, Option.getD_some]
   repeat (first
    | refine GE.mv U rfl rfl rfl (by k_ne) rfl rfl ?_
    | refine GE.as U rfl rfl rfl (by k_ne) rfl rfl ?_
    | refine GE.regionEnd U ?_
    | refine GE.seq U ?_
    | refine GE.region _ U rfl ?_
    | refine GE.nil U rfl rfl rfl (by k_ne) rfl rfl ?_
    | refine GE.fa U rfl rfl rfl (by k_ne) rfl rfl (fun w hw => by go_simp; (try rfl)) (fun w hw => by simp [go_sem]) ?_)
   intro T4 hT4 hl4
   refine Gs.stop U fun w hw => ⟨rfl, fun v' hv' hat => ⟨fun e => ?_, fun e => ?_⟩⟩
   ·subst e
    have hat' : WgAt 108 Wg w 8589934592 0 := by simpa [KK] using hat
    refine ⟨_, (stepG_cas_hit (v := 8589934592) (n := 8589934593) rfl (hl4.want rfl) (by k_ne) rfl Try.func123 x123_n x123_b x123_x .u64 x123_f (hl4.ev rfl) (hl4.ev rfl) (hl4.ev rfl) hat'.cellSt (hat'.thaw 0)).trans (by rfl), Gs.runs (F := F) (GE.put rfl hT4 hl4 ?_) (V.st _ _ hw)⟩
    clear hat hat'
    repeat (first
     | refine GE.as U rfl rfl rfl (by k_ne) rfl rfl ?_
     | refine GE.regionEnd U ?_)
    refine GE.ret1 U rfl Try.func109 rfl rfl (GE.put rfl hT3 hlT3 ?_)
    refine GE.to [(48, .bool true), (0, .pointer (some ⟨Wg, 0, none⟩)), (2, .int .u64 8589934592), (4, .int .u32 0)] ⟨rfl, rfl, rfl, rfl, trivial⟩ ?_
    repeat (first
     | refine GE.mv U rfl rfl rfl (by k_ne) rfl rfl ?_
     | refine GE.bin U rfl rfl rfl (by k_ne) rfl rfl rfl rfl ?_
     | refine GE.regionEnd U ?_
     | refine GE.seq U ?_
     | refine GE.region _ U rfl ?_
     | refine GE.pick U rfl rfl rfl (by k_ne) rfl rfl rfl ?_
     | (refine GE.cond true U rfl ?_; simp only [if_true, if_false, Bool.false_eq_true, ↓reduceIte])
     | refine GE.nil U rfl rfl rfl (by k_ne) rfl rfl ?_
     | refine GE.fa U rfl rfl rfl (by k_ne) rfl rfl (fun w hw => by go_simp; (try rfl)) (fun w hw => by simp [go_sem]) ?_
     | refine GE.cv U rfl rfl rfl (by k_ne) rfl rfl (v := .pointer (some ⟨Wg, 1, none⟩)) (fun w hw => by obtain ⟨v, hc⟩ := hcell1 w hw; exact run_convert_to_unsafe (P := Try.prog) Try.underlying129 Try.underlying124 room78 hc) (fun w hw => by obtain ⟨v, hc⟩ := hcell1 w hw; exact events_convert_to_unsafe (P := Try.prog) Try.underlying129 Try.underlying124 room78 hc _) ?_)
    refine GE.turn (v := .tuple #[]) U ?hd (fun T hT hl w hw => ⟨w, _, stepG_markAt .write (by simp) rfl (hl.want rfl) (by k_ne) rfl Try.func110 x110_n x110_b x110_x x110_f (ad := ⟨Wg, 1, none⟩) (by have h := hl 56 _ rfl; simp [Act.eval, h]), V.sayw w hw, hw⟩) ?_
    case hd => rfl
    repeat (first
     | refine GE.mv U rfl rfl rfl (by k_ne) rfl rfl ?_
     | refine GE.bin U rfl rfl rfl (by k_ne) rfl rfl rfl rfl ?_
     | refine GE.as U rfl rfl rfl (by k_ne) rfl rfl ?_
     | refine GE.regionEnd U ?_
     | refine GE.seq U ?_
     | refine GE.region _ U rfl ?_
     | refine GE.unwanted U rfl rfl rfl ?_
     | refine GE.pick U rfl rfl rfl (by k_ne) rfl rfl rfl ?_
     | (refine GE.cond false U rfl ?_; simp only [if_true, if_false, Bool.false_eq_true, ↓reduceIte])
     | refine GE.skip U ?_
     | refine GE.nil U rfl rfl rfl (by k_ne) rfl rfl ?_
     | refine GE.fa U rfl rfl rfl (by k_ne) rfl rfl (fun w hw => by go_simp; (try rfl)) (fun w hw => by simp [go_sem]) ?_)
    intro T5 hT5 hl5
    refine Gs.stop U fun w hw => ⟨rfl, rfl, fun ⟨st, hat⟩ => stepG_semacquire_wait rfl (hl5.want rfl) rfl Try.func111 x111_n x111_b x111_x x111_f (by have h := hl5 70 _ rfl; simp [Act.eval, smA, h]) hat.cellSm, fun hat => ?_⟩
    refine ⟨_, (stepG_semacquire (n := 1) rfl (hl5.want rfl) (by k_ne) rfl Try.func111 x111_n x111_b x111_x x111_f (by have h := hl5 70 _ rfl; simp [Act.eval, smA, h]) hat.cellSm (by decide) (hat.thaw 1)).trans (by rfl), Gs.runs (F := F) (GE.put rfl hT5 hl5 ?_) (V.sm _ _ hw)⟩
    clear hat
    repeat (first
     | refine GE.mv U rfl rfl rfl (by k_ne) rfl rfl ?_
     | refine GE.regionEnd U ?_
     | refine GE.seq U ?_
     | refine GE.region _ U rfl ?_
     | refine GE.nil U rfl rfl rfl (by k_ne) rfl rfl ?_
     | refine GE.fa U rfl rfl rfl (by k_ne) rfl rfl (fun w hw => by go_simp; (try rfl)) (fun w hw => by simp [go_sem]) ?_)
    refine GE.call #[.pointer (some ⟨Wg, 0, none⟩)] U rfl rfl rfl (by k_ne) Try.func101 nm101 body101 (fun e he => by simp [he (.tmp 75) _ rfl] <;> rfl) fun T6 hT6 hlT6 => ?_
    refine (?_ : GE Try.prog true _ _ _ _ (base 101) _ 7 [] [(0, .pointer (some ⟨Wg, 0, none⟩))] [.code c101]) _ (by simp) (looks1 _ _)
    simp only [c101, Try.f101, Option.getD_some]
    repeat (first
     | refine GE.mv U rfl rfl rfl (by k_ne) rfl rfl ?_
     | refine GE.as U rfl rfl rfl (by k_ne) rfl rfl ?_
     | refine GE.regionEnd U ?_
     | refine GE.seq U ?_
     | refine GE.region _ U rfl ?_
     | refine GE.nil U rfl rfl rfl (by k_ne) rfl rfl ?_
     | refine GE.fa U rfl rfl rfl (by k_ne) rfl rfl (fun w hw => by go_simp; (try rfl)) (fun w hw => by simp [go_sem]) ?_)
    intro T7 hT7 hl7
    refine Gs.stop U fun w hw => ⟨rfl, fun hat => ?_⟩
    refine ⟨_, stepG_load_atomic (v := 0) rfl (hl7.want rfl) (by k_ne) rfl Try.func119 x119_n x119_b x119_x .u64 x119_f (hl7.ev rfl) hat.cellSt, Gs.runs (F := F) (GE.put rfl hT7 hl7 ?_) hw⟩
    repeat (first
     | refine GE.as U rfl rfl rfl (by k_ne) rfl rfl ?_
     | refine GE.regionEnd U ?_)
    refine GE.ret1 U rfl Try.func101 rfl rfl (GE.put rfl hT6 hlT6 ?_)
    refine GE.to [(76, .int .u64 0), (0, .pointer (some ⟨Wg, 0, none⟩))] ⟨rfl, rfl, trivial⟩ ?_
    repeat (first
     | refine GE.mv U rfl rfl rfl (by k_ne) rfl rfl ?_
     | refine GE.bin U rfl rfl rfl (by k_ne) rfl rfl rfl rfl ?_
     | refine GE.as U rfl rfl rfl (by k_ne) rfl rfl ?_
     | refine GE.regionEnd U ?_
     | refine GE.seq U ?_
     | refine GE.region _ U rfl ?_
     | (refine GE.cond true U rfl ?_; simp only [if_true, if_false, Bool.false_eq_true, ↓reduceIte])
     | (refine GE.cond false U rfl ?_; simp only [if_true, if_false, Bool.false_eq_true, ↓reduceIte])
     | refine GE.skip U ?_
     | refine GE.cv U rfl rfl rfl (by k_ne) rfl rfl (v := .pointer (some ⟨Wg, 0, none⟩)) (fun w hw => by obtain ⟨v, hc⟩ := hcell w hw; exact run_convert_to_unsafe (P := Try.prog) Try.underlying122 Try.underlying124 room108 hc) (fun w hw => by obtain ⟨v, hc⟩ := hcell w hw; exact events_convert_to_unsafe (P := Try.prog) Try.underlying122 Try.underlying124 room108 hc _) ?_
     | exact GE.ret0 U rfl Try.func77 rfl hT
     | (intro Ta hTa hla; refine Gs.stop U fun w hw => ⟨rfl, _, stepG_mark0 .enable (by simp) rfl (hla.want rfl) (by k_ne) rfl Try.func94 x94_n x94_b x94_x x94_f, Gs.runs (F := F) (GE.put rfl hTa hla ?_) hw⟩)
     | (intro Ta hTa hla; refine Gs.stop U fun w hw => ⟨rfl, _, stepG_markAt .acquire (by simp) rfl (hla.want rfl) (by k_ne) rfl Try.func107 x107_n x107_b x107_x x107_f (by have h := hla 80 _ rfl; simp [Act.eval, stA, h]), Gs.runs (F := F) (GE.put rfl hTa hla ?_) hw⟩))
   ·have hat' : WgAt 108 Wg w (((v' : Nat) : Int) * KK) 0 := hat
    refine ⟨_, stepG_cas_miss (v := (v' : Int) * KK) (old := 8589934592) (n := 8589934593) rfl (hl4.want rfl) (by k_ne) rfl Try.func123 x123_n x123_b x123_x .u64 x123_f (hl4.ev rfl) (hl4.ev rfl) (hl4.ev rfl) hat.cellSt (hat.thaw 0) (by simp only [KK]; omega), Gs.runs (F := F) (GE.put rfl hT4 hl4 ?_) hw⟩
    clear hat hat'
    repeat (first
     | refine GE.as U rfl rfl rfl (by k_ne) rfl rfl ?_
     | refine GE.regionEnd U ?_)
    refine GE.ret1 U rfl Try.func109 rfl rfl (GE.put rfl hT3 hlT3 ?_)
    refine GE.to [(48, .bool false), (0, .pointer (some ⟨Wg, 0, none⟩))] ⟨rfl, rfl, trivial⟩ ?_
    repeat (first
     | refine GE.regionEnd U ?_
     | (refine GE.cond false U rfl ?_; simp only [if_true, if_false, Bool.false_eq_true, ↓reduceIte])
     | refine GE.skip U ?_
     | refine GE.inBlock U ?_)
    refine GE.inLoop U ?_
    refine GE.to [(0, .pointer (some ⟨Wg, 0, none⟩))] ⟨rfl, trivial⟩ ?_
    exact ih
set_option maxRecDepth 100000 in
set_option maxHeartbeats 16000000 in
theorem wait_walkE (V : MRule Wg R D F) (hT : Gs Try.prog true R D Stop F (G (b₀.at (a₀.put ((ops₀[i₀]?).bind (·.dst)) (.tuple #[])) (.inRegion ops₀ rest₀ :: k₀)) cs)) :
  Gs Try.prog true R D (WKd R D Wg Stop) F (G ((base 77).at ⟨#[.pointer (some ⟨Wg, 0, none⟩)] ++ Array.replicate 83 undef, []⟩ [.code c77]) (b₀.at a₀ (.inRegion ops₀ (i₀ :: rest₀) :: k₀) :: cs)) := by
 have hr := wait_roundE V hT 2
 have U := V.toRule
 have hcell : ∀ w, F w → ∃ v, w.cell? ⟨Wg, 0, none⟩ = some v := fun w h => let ⟨_, _, h⟩ := V.live w h; ⟨_, h.cellSt⟩
 have hcell1 : ∀ w, F w → ∃ v, w.cell? ⟨Wg, 1, none⟩ = some v := fun w h => let ⟨_, _, h⟩ := V.live w h; ⟨_, h.cellSm⟩
 refine (?_ : GE Try.prog true R D (WKd R D Wg Stop) F (base 77) _ 84 [] [(0, .pointer (some ⟨Wg, 0, none⟩))] [.code c77]) _ (by simp) (looks1 _ _)
 simp only [L77, c77, Try.f77, Option.getD_some, cR, cB, cLp] at hr ⊢
 repeat (first
  | refine GE.seq U ?_
  | refine GE.region _ U rfl ?_
  | (refine GE.cond true U rfl ?_; simp only [if_true, if_false, Bool.false_eq_true, ↓reduceIte]))
 intro T1 hT1 hlT1
 refine Gs.stop U fun w hw => ⟨rfl, _, stepG_mark0 .disable (by simp) rfl (hlT1.want rfl) (by k_ne) rfl Try.func93 x93_n x93_b x93_x x93_f, Gs.runs (F := F) (GE.put rfl hT1 hlT1 ?_) hw⟩
 repeat (first
  | refine GE.regionEnd U ?_
  | refine GE.block U ?_)
 refine GE.loop U ?_
 exact GE.to [(0, .pointer (some ⟨Wg, 0, none⟩))] ⟨rfl, trivial⟩ hr
end
end Go.Proofs.Ytnikfjfcbpeieaa.Hk
end
