/- The turned sum: what it answers (its contract in the print's words). Written by mkyf.py. -/
import Derived.Test.YtnikfjfcbpeieaaMTQq
import Derived.Test.YtnikfjfcbpeieaaProg
import Derived.Below
import Derived.Deep.Draws
import Derived.Deep.AppendLies
import Derived.Maps.AppendAt
import Derived.OwnWalk
import Derived.Laws.BytesArg
import Derived.Laws.MakeOwn
import Derived.Laws.OwnMore
import Derived.Deep.OwnRows
import Derived.Tactics
import Derived.Lib.ConvBytes
import Derived.Laws.Slices
import Derived.WalkKit
import Derived.KernelRfl
import Derived.RowKit3
import Derived.Deep.LoopGhost
import Derived.Deep.QuietTactic
import Derived.BigQuiet
import Derived.WideLaws
import Derived.Deep.DeepCutAuto
import Derived.Deep.CutBlock
import Derived.Deep.RegionHeld3
import Derived.Laws.Rows
import Derived.Lib.AppendStr
import Derived.ArgAppend
import Derived.Laws.IdiomCopy
import Derived.OrdersHeld
import Derived.Laws.BitsLemmas
import Derived.RowKit
import Derived.Test.YtnikfjfcbpeieaaMTW
import Derived.Test.YtnikfjfcbpeieaaMTTa
import Derived.Conc.WgGenN3
section
namespace Go.Proofs.Ytnikfjfcbpeieaa.PBq
open Go.RowKit Go.Proofs.YtnikfjfcbpeieaaW.PrintWords Go.Proofs.YtnikfjfcbpeieaaW.PrintLast Go.Proofs.YtnikfjfcbpeieaaW.PrintMore
attribute [local go_sem] max2_int min2_int max_two min_two max_three min_three max_four min_four   -- for this text's walks alone
set_option linter.unusedVariables false
set_option linter.unusedSimpArgs false
def errW : Option Int → Value
 | none => .nilIface
 | some c => .iface 0 (.int .i64 c)
theorem errW_none : errW none = .nilIface := rfl
theorem errW_some (c : Int) : errW (some c) = .iface 0 (.int .i64 c) := rfl
end Go.Proofs.Ytnikfjfcbpeieaa.PBq
end
section
namespace Go.Proofs.Ytnikfjfcbpeieaa.PBq
open Go.RowKit Go.Proofs.YtnikfjfcbpeieaaW.PrintWords Go.Proofs.YtnikfjfcbpeieaaW.PrintLast Go.Proofs.YtnikfjfcbpeieaaW.PrintMore
attribute [local go_sem] max2_int min2_int max_two min_two max_three min_three max_four min_four   -- for this text's walks alone
set_option linter.unusedVariables false
set_option linter.unusedSimpArgs false
def bpdu_in.f (a0 : Int) (a1 : Int) : Option (Bool) := if a0 ≥ 0 then (some (decide (a0 ≤ a1))) else (some false)
set_option maxHeartbeats 8000000 in
set_option maxRecDepth 100000 in
theorem bpdu_in.calls (a0 : Int) (a1 : Int) (r : Bool) (w : World) (h : bpdu_in.f a0 a1 = some r) :
  Calls Tq.prog 83 #[.int .i64 a0, .int .i64 a1] w fun e w' => e = .returned (.bool r) ∧ Drawn0 w w' := by
 have H := h
 unfold bpdu_in.f at H
 clear h
 by_cases c3 : a0 ≥ 0
 ·rw [if_pos c3] at H
  have c3b0 : decide (0 ≤ a0) = true := decide_eq_true c3
  clear c3
  obtain rfl := Option.some.inj H
  go_enter Tq.func83, Try.ntmps83
  go_wp2
  go_ret
  exact ⟨by first | rfl | (simp; done) | (simp [*]; done), by repeat (first | exact Drawn0.refl _ | apply Drawn0.step)⟩
 ·rw [if_neg c3] at H
  have c3b0 : decide (0 ≤ a0) = false := decide_eq_false c3
  clear c3
  obtain rfl := Option.some.inj H
  go_enter Tq.func83, Try.ntmps83
  go_wp2
  go_ret
  exact ⟨by first | rfl | (simp; done) | (simp [*]; done), by repeat (first | exact Drawn0.refl _ | apply Drawn0.step)⟩
def bpdu_in.Pure : Prop := ∀ (a0 : Int) (a1 : Int), (Lit.int .i64 a0).wf = true → (Lit.int .i64 a1).wf = true → bpdu_in.f a0 a1 = some true
theorem bpdu_in.walk (P : bpdu_in.Pure) (a0 : Int) (a1 : Int) (w : World) (w0 : (Lit.int .i64 a0).wf = true) (w1 : (Lit.int .i64 a1).wf = true) :
  Calls Tq.prog 83 #[.int .i64 a0, .int .i64 a1] w fun e w' => e = .returned (.bool true) ∧ Below w.heap.size w w' := by
 have h := P a0 a1 w0 w1
 refine (bpdu_in.calls a0 a1 true w h).mono ?_
 rintro e w' ⟨rfl, hd⟩
 exact ⟨rfl, hd.below⟩
def bpdu_Right.f (a0_0 : Int) (a0_1 : Int) (a0_2 : Int) (a0_3 : Int) (a0_4 : Int) : Option (Bool) := (bpdu_in.f a0_0 65535).bind fun t103 => (if t103 = true then ((bpdu_in.f a0_2 65535).bind fun t104 => (if t104 = true then ((bpdu_in.f a0_1 2147483647).bind fun t105 => (if t105 = true then ((bpdu_in.f a0_3 7).bind fun t106 => (if t106 = true then ((bpdu_in.f a0_4 255).bind fun t107 => (some t107)) else (some false))) else (some false))) else (some false))) else (some false))
set_option maxHeartbeats 8000000 in
set_option maxRecDepth 100000 in
theorem bpdu_Right.calls (a0_0 : Int) (a0_1 : Int) (a0_2 : Int) (a0_3 : Int) (a0_4 : Int) (r : Bool) (w : World) (h : bpdu_Right.f a0_0 a0_1 a0_2 a0_3 a0_4 = some r) :
  Calls Tq.prog 58 #[.agg #[.int .i64 a0_0, .int .i64 a0_1, .int .i64 a0_2, .int .i64 a0_3, .int .i64 a0_4]] w fun e w' => e = .returned (.bool r) ∧ Below w.heap.size w w' := by
 have hu52 := Tq.underlying52
 have hu50 := Tq.underlying50
 have HB := Aside0.mk (Below.refl w.heap.size w)
 have H := h
 unfold bpdu_Right.f at H
 clear h
 replace H := Option.bind_eq_some_iff.mp H
 obtain ⟨t103, A20, H⟩ := H
 try dsimp only at H
 have A2 := Aside0.mk A20
 clear A20
 by_cases c3 : t103 = true
 case' neg =>
  replace c3 := Bool.eq_false_iff.mpr c3
  subst c3
  rw [if_neg (show ¬ (false = true) by decide)] at H
  obtain rfl := Option.some.inj H
 case' pos =>
  subst c3
  rw [if_pos rfl] at H
  replace H := Option.bind_eq_some_iff.mp H
  obtain ⟨t104, A40, H⟩ := H
  try dsimp only at H
  have A4 := Aside0.mk A40
  clear A40
  by_cases c5 : t104 = true
  case' neg =>
   replace c5 := Bool.eq_false_iff.mpr c5
   subst c5
   rw [if_neg (show ¬ (false = true) by decide)] at H
   obtain rfl := Option.some.inj H
  case' pos =>
   subst c5
   rw [if_pos rfl] at H
   replace H := Option.bind_eq_some_iff.mp H
   obtain ⟨t105, A60, H⟩ := H
   try dsimp only at H
   have A6 := Aside0.mk A60
   clear A60
   by_cases c7 : t105 = true
   case' neg =>
    replace c7 := Bool.eq_false_iff.mpr c7
    subst c7
    rw [if_neg (show ¬ (false = true) by decide)] at H
    obtain rfl := Option.some.inj H
   case' pos =>
    subst c7
    rw [if_pos rfl] at H
    replace H := Option.bind_eq_some_iff.mp H
    obtain ⟨t106, A80, H⟩ := H
    try dsimp only at H
    have A8 := Aside0.mk A80
    clear A80
    by_cases c9 : t106 = true
    case' neg =>
     replace c9 := Bool.eq_false_iff.mpr c9
     subst c9
     rw [if_neg (show ¬ (false = true) by decide)] at H
     obtain rfl := Option.some.inj H
    case' pos =>
     subst c9
     rw [if_pos rfl] at H
     replace H := Option.bind_eq_some_iff.mp H
     obtain ⟨t107, A100, H⟩ := H
     replace H : (some t107) = some r := H
     have A10 := Aside0.mk A100
     clear A100
     obtain rfl := Option.some.inj H
 all_goals
  go_enter Tq.func58, Try.ntmps58
  go_wp2_with (first | ((with_reducible refine gate_dst (N := 1) rfl ?_); refine box_event ?hg (N := 1) ?hd (cs := #[.int .i64 a0_0, .int .i64 a0_1, .int .i64 a0_2, .int .i64 a0_3, .int .i64 a0_4]) (t := 52) ?hr ?_; (case hd => rfl); (case hg => rfl); (case hr => first | (go_simp; done) | (go_simp; rfl)); intro gb101 hg w11 hbox hb; have BK101 := Aside0.mk (hbox); have GW101 := Aside0.mk ((by rw [hg]; exact (below_size (by exact bw HB.out)) : w.heap.size ≤ gb101)); have GE101 := Aside0.mk ((by rw [hg]; exact (below_size (by exact bw HB.out)) : w.heap.size ≤ gb101)); replace HB := Aside0.mk (below_step (by exact bw HB.out) hb); clear hb hbox hg; obtain ⟨hcz12_0, hcz12_1, hcz12_2, hcz12_3, hcz12_4, hfz12_0, hfz12_1, hfz12_2, hfz12_3, hfz12_4⟩ := cs5 BK101.out) | ((with_reducible refine gate_dst (N := 3) rfl ?_); refine box_event ?hg (N := 3) ?hd (cs := #[.int .i64 0, .int .i64 0, .int .i64 0, .int .i64 0]) (t := 50) ?hr ?_; (case hd => rfl); (case hg => rfl); (case hr => first | (go_simp; done) | (go_simp; rfl)); intro gb102 hg w13 hbox hb; have BK102 := Aside0.mk (hbox); have GW102 := Aside0.mk ((by rw [hg]; exact (below_size (by exact bw HB.out)) : w.heap.size ≤ gb102)); have GE102 := Aside0.mk ((by rw [hg]; exact (below_size (by exact bw HB.out)) : w.heap.size ≤ gb102)); replace HB := Aside0.mk (below_step (by exact bw HB.out) hb); have NB101_102 := Aside0.mk ((by rw [hg]; exact Nat.ne_of_lt (bl BK101.out) : gb101 ≠ gb102)); have NB102_101 := Aside0.mk ((by rw [hg]; exact Nat.ne_of_gt (bl BK101.out) : gb102 ≠ gb101)); replace BK101 := Aside0.mk (blk_below (g := gb101) (o := .cells #[.int .i64 a0_0, .int .i64 a0_1, .int .i64 a0_2, .int .i64 a0_3, .int .i64 a0_4] 52 (0, 0)) (by exact bk BK101.out rfl) hb); clear hb hbox hg; have hnb14 := NB102_101.out; have hnc14 := NB101_102.out; obtain ⟨hcz15_0, hcz15_1, hcz15_2, hcz15_3, hfz15_0, hfz15_1, hfz15_2, hfz15_3⟩ := cs4 BK102.out) | ((with_reducible refine gate_callee (f := 83) rfl ?_); refine goesL_ (some 8) rfl rfl Tq.func83 (by kernel_rfl) rfl #[.int .i64 a0_0, .int .i64 65535] rfl (by (try simp only [List.map_toArray, List.map_cons, List.map_nil]); first | done | rfl | (simp only [List.length_drop, List.length_take]; rfl)) ?_; (with_reducible refine (bpdu_in.calls a0_0 65535 _ _ A2.out).mono ?_); rintro e w' ⟨rfl, ⟨nd, rfl⟩⟩; refine ⟨_, rfl, ?_⟩) | (go_at_call 83; (with_reducible refine (bpdu_in.calls a0_2 65535 _ _ A4.out).mono ?_); rintro e w' ⟨rfl, ⟨nd, rfl⟩⟩) | (go_at_call 83; (with_reducible refine (bpdu_in.calls a0_1 2147483647 _ _ A6.out).mono ?_); rintro e w' ⟨rfl, ⟨nd, rfl⟩⟩) | (go_at_call 83; (with_reducible refine (bpdu_in.calls a0_3 7 _ _ A8.out).mono ?_); rintro e w' ⟨rfl, ⟨nd, rfl⟩⟩; obtain ⟨hcz16_0, hcz16_1, hcz16_2, hcz16_3, hcz16_4, hfz16_0, hfz16_1, hfz16_2, hfz16_3, hfz16_4⟩ := cs5 BK101.out) | (go_at_call 83; (with_reducible refine (bpdu_in.calls a0_4 255 t107 _ A10.out).mono ?_); rintro e w' ⟨rfl, ⟨nd, rfl⟩⟩))
  go_ret
  exact ⟨by first | rfl | (simp [errW_none, errW_some] <;> rfl) | (simp [*, errW_none, errW_some] <;> rfl), by exact bw HB.out⟩
end Go.Proofs.Ytnikfjfcbpeieaa.PBq
end
section
namespace Go.Proofs.Ytnikfjfcbpeieaa.EBp
open Go Go.Conc Go.RowKit Go.Proofs.YtnikfjfcbpeieaaW.PrintWords Go.Proofs.YtnikfjfcbpeieaaW.PrintLast Go.Proofs.YtnikfjfcbpeieaaW.PrintMore
open Go.ConcR.Gen
set_option linter.unusedVariables false
set_option linter.unusedSimpArgs false
def bpdu_sum.f (xs : List Int) : Option Int := if (∀ x ∈ xs, 0 ≤ x ∧ x < 256) ∧ xs.length ≤ 1000000000 then some (xs.sum % 256) else none
def RT (Goal : Frame → List Frame → World → Prop) (f : Frame) (cs : List Frame) (w : World) : Prop := ∃ N f2 cs2 w2, runN Tq.prog N (lone f cs w) = .next (lone f2 cs2 w2) ∧ Goal f2 cs2 w2
section
variable {Goal : Frame → List Frame → World → Prop} {b : Frame} {a : Act} {k : List Item} {cs : List Frame} {w : World}
theorem RT.goal {f : Frame} (h : Goal f cs w) : RT Goal f cs w := ⟨0, f, cs, w, rfl, h⟩
theorem RT.go {b0 b1 : Frame} {w1 : World} {es : Array Event} (h : stepG Tq.prog true (G b0 cs) w = .go (G b1 cs) w1 es) (kk : RT Goal b1 cs w1) : RT Goal b0 cs w := by
 obtain ⟨N, f2, cs2, w2, h1, h2⟩ := kk
 have hst : step Tq.prog (lone b0 cs w) = .next (lone b1 cs w1) := step_lone_go ((congrArg GStep.bare h).trans rfl)
 exact ⟨N + 1, f2, cs2, w2, by simp only [runN, hst]; exact h1, h2⟩
theorem RT.skip (h : RT Goal (b.at a k) cs w) : RT Goal (b.at a (.code .skip :: k)) cs w := RT.go stepG_skip h
theorem RT.inBlock {id : Nat} (h : RT Goal (b.at a k) cs w) : RT Goal (b.at a (.inBlock id :: k)) cs w := RT.go stepG_inBlock h
theorem RT.seq {x y : Code} (h : RT Goal (b.at a (.code x :: .code y :: k)) cs w) : RT Goal (b.at a (.code (.seq x y) :: k)) cs w := RT.go stepG_seq h
theorem RT.cond {c : Operand} {x y : Code} (t : Bool) (e : a.eval c = .bool t) (h : RT Goal (b.at a (.code (if t then x else y) :: k)) cs w) : RT Goal (b.at a (.code (.cond c x y) :: k)) cs w := RT.go (stepG_cond e) h
theorem RT.block {id : Nat} {c : Code} (h : RT Goal (b.at a (.code c :: .inBlock id :: k)) cs w) : RT Goal (b.at a (.code (.block id c) :: k)) cs w := RT.go stepG_block h
theorem RT.loop {c : Code} (h : RT Goal (b.at a (.code c :: .inLoop c :: k)) cs w) : RT Goal (b.at a (.code (.loop c) :: k)) cs w := RT.go stepG_loop h
theorem RT.inLoop {c : Code} (h : RT Goal (b.at a (.code c :: .inLoop c :: k)) cs w) : RT Goal (b.at a (.inLoop c :: k)) cs w := RT.go stepG_inLoop h
theorem RT.exit {id : Nat} {k' : List Item} (e : exitTo id k = some k') (h : RT Goal (b.at a k') cs w) : RT Goal (b.at a (.code (.exit id) :: k)) cs w := RT.go (stepG_exit e) h
theorem RT.region {id : Nat} {ops : Array Oper} (h : RT Goal (b.at a (.inRegion ops (List.range ops.size) :: k)) cs w) : RT Goal (b.at a (.code (.region id ops false) :: k)) cs w := RT.go stepG_region h
theorem RT.regionEnd {ops : Array Oper} (h : RT Goal (b.at a k) cs w) : RT Goal (b.at a (.inRegion ops [] :: k)) cs w := RT.go stepG_region_end h
theorem RT.ret (h : RT Goal { b.at a (.code .ret :: k) with mode := .returning } cs w) : RT Goal (b.at a (.code .ret :: k)) cs w := RT.go stepG_ret' h
variable {ops : Array Oper} {i : Nat} {rest : List Nat} {o : Oper}
theorem RT.val {v : Value} {w1 : World} (ho : ops[i]? = some o) (hw : Region.wanted o (yielded ops a.tmps) = true) (hk : b.kind ≠ .early)
  (hr : (execOp a.eval o).run Tq.prog w = .ok (.value v) w1) (h : RT Goal (b.at (a.put o.dst v) (.inRegion ops rest :: k)) cs w1) : RT Goal (b.at a (.inRegion ops (i :: rest) :: k)) cs w := RT.go (stepG_value ho hw hk hr) h
theorem RT.valw {v : Value} (ho : ops[i]? = some o) (hw : Region.wanted o (yielded ops a.tmps) = true) (hk : b.kind ≠ .early)
  (hr : (execOp a.eval o).run Tq.prog w = .ok (.value v) w) (h : RT Goal (b.at (a.put o.dst v) (.inRegion ops rest :: k)) cs w) : RT Goal (b.at a (.inRegion ops (i :: rest) :: k)) cs w := RT.val ho hw hk hr h
end
theorem ar16 (T : Array Value) (h : T.size = 16) : ∃ v0 v1 v2 v3 v4 v5 v6 v7 v8 v9 v10 v11 v12 v13 v14 v15 : Value, T = #[v0, v1, v2, v3, v4, v5, v6, v7, v8, v9, v10, v11, v12, v13, v14, v15] := by
 obtain ⟨l⟩ := T
 simp only [List.size_toArray] at h
 rcases l with _ | ⟨v0, l⟩
 ·simp at h
 rcases l with _ | ⟨v1, l⟩
 ·simp at h
 rcases l with _ | ⟨v2, l⟩
 ·simp at h
 rcases l with _ | ⟨v3, l⟩
 ·simp at h
 rcases l with _ | ⟨v4, l⟩
 ·simp at h
 rcases l with _ | ⟨v5, l⟩
 ·simp at h
 rcases l with _ | ⟨v6, l⟩
 ·simp at h
 rcases l with _ | ⟨v7, l⟩
 ·simp at h
 rcases l with _ | ⟨v8, l⟩
 ·simp at h
 rcases l with _ | ⟨v9, l⟩
 ·simp at h
 rcases l with _ | ⟨v10, l⟩
 ·simp at h
 rcases l with _ | ⟨v11, l⟩
 ·simp at h
 rcases l with _ | ⟨v12, l⟩
 ·simp at h
 rcases l with _ | ⟨v13, l⟩
 ·simp at h
 rcases l with _ | ⟨v14, l⟩
 ·simp at h
 rcases l with _ | ⟨v15, l⟩
 ·simp at h
 rcases l with _ | ⟨x, l⟩
 ·exact ⟨v0, v1, v2, v3, v4, v5, v6, v7, v8, v9, v10, v11, v12, v13, v14, v15, rfl⟩
 ·simp at h
theorem alloc3w {ρ : Operand → Value} {o : Oper} (ho : o.op = .alloc 3) (w : World) : (execOp ρ o).run Tq.prog w = .ok (.value (.pointer (some ⟨w.heap.size, 0, none⟩))) (w.alloc (.cells #[.int .i64 0] 3)) := by
 simp only [execOp, ho]
 go_simp
def s5 (w : World) : World := ((((w.alloc (.cells #[.int .i64 0] 3)).alloc (.cells #[.int .i64 0] 3)).alloc (.cells #[.int .i64 0] 3)).alloc (.cells #[.int .i64 0] 3)).alloc (.cells #[.int .i64 0] 3)
theorem s5_below (w : World) : Below w.heap.size w (s5 w) := by
 unfold s5
 have h1 := (Below.refl w.heap.size w).alloc (Nat.le_refl _) (.cells #[.int .i64 0] 3)
 repeat (first | exact h1 | refine below_alloc ?_ _)
def cR : Code → Code | .seq _ b => b | c => c
def cL : Code → Code | .seq a _ => a | c => c
def cB : Code → Code | .block _ c => c | c => c
def cLp : Code → Code | .loop c => c | c => c
def GoalS (cs : List Frame) (w : World) (r : Int) (f : Frame) (cs2 : List Frame) (w2 : World) : Prop := ∃ T todo, f = { (base 68).at ⟨T, []⟩ todo with mode := .returning } ∧ T.getD 2 undef = .int .u8 r ∧ cs2 = cs ∧ w2 = s5 w
set_option maxRecDepth 100000 in
set_option maxHeartbeats 8000000 in
theorem loopS {A : Option Addr} {n c : Nat} {l : List Int} {w : World} {cs : List Frame} (hn : l.length = n) (hel : ∀ p, p < n → ∃ ad, A = some ad ∧ w.cell? (ad.add p) = some (.int .u8 (l.getD p 0))) (hr : ∀ x ∈ l, 0 ≤ x ∧ x < 256) (hs : n ≤ 1000000000) :
  ∀ (m p : Nat), p + m = n → ∀ (s : Int), 0 ≤ s ∧ s < 256 → ∀ T : Array Value, T.size = 16 → T[0]? = some (.slice A n c) → T[2]? = some (.int .u8 s) → T[3]? = some (.int .i64 (n : Nat)) → T[5]? = some (.int .i64 (p : Nat)) →
  RT (GoalS cs w ((s + (l.drop p).sum) % 256)) ((base 68).at ⟨T, []⟩ [.code (cLp (cB (cL (cR (cR Tq.c68))))), .inLoop (cLp (cB (cL (cR (cR Tq.c68))))), .inBlock 0, .code (cR (cR (cR Tq.c68)))]) cs w := by
 intro m
 induction m with
 | zero =>
  intro p hp s hs0 T hT t0 t2 t3 t5
  obtain rfl : p = n := by omega
  obtain ⟨v0, v1, v2, v3, v4, v5, v6, v7, v8, v9, v10, v11, v12, v13, v14, v15, rfl⟩ := ar16 T hT
  simp only [List.getElem?_toArray, List.getElem?_cons_succ, List.getElem?_cons_zero, Option.some.injEq] at t0 t2 t3 t5
  subst t0 t2 t3 t5
  have hnl : ¬ ((p : Int) < (p : Int)) := by omega
  have hwp : True := trivial
  have hwx : True := trivial
  simp only [Tq.c68, cR, cL, cB, cLp]
  repeat (first
   | refine RT.seq ?_
   | refine RT.block ?_
   | refine RT.loop ?_
   | refine RT.inLoop ?_
   | refine RT.inBlock ?_
   | refine RT.skip ?_
   | refine RT.regionEnd ?_
   | (refine RT.region ?_; simp only [List.size_toArray, List.length_cons, List.length_nil, Nat.reduceAdd, Nat.zero_add, List.range, List.range.loop])
   | (refine RT.cond true rfl ?_; simp only [if_true, if_false, Bool.false_eq_true, ↓reduceIte])
   | (refine RT.cond false rfl ?_; simp only [if_true, if_false, Bool.false_eq_true, ↓reduceIte])
   | refine RT.exit rfl ?_
   | (apply RT.valw rfl rfl (by k_ne); (case hr => go_simp; (try simp only [hwp, hwx]); (try w_num); (try rfl)); walk_nrm; (try simp only [hwp, hwx]); (try w_num)))
  refine RT.val rfl rfl (by k_ne) (alloc3w rfl _) ?_
  walk_nrm
  refine RT.val rfl rfl (by k_ne) (alloc3w rfl _) ?_
  walk_nrm
  refine RT.val rfl rfl (by k_ne) (alloc3w rfl _) ?_
  walk_nrm
  refine RT.val rfl rfl (by k_ne) (alloc3w rfl _) ?_
  walk_nrm
  refine RT.val rfl rfl (by k_ne) (alloc3w rfl _) ?_
  walk_nrm
  refine RT.regionEnd ?_
  refine RT.ret ?_
  refine RT.goal ⟨_, _, rfl, ?_, rfl, rfl⟩
  rw [List.drop_eq_nil_of_le (by omega), List.sum_nil, show (s + 0) % 256 = s by omega]
  rfl
 | succ m ih =>
  intro p hp s hs0 T hT t0 t2 t3 t5
  have ih' := ih (p + 1) (by omega)
  clear ih
  obtain ⟨v0, v1, v2, v3, v4, v5, v6, v7, v8, v9, v10, v11, v12, v13, v14, v15, rfl⟩ := ar16 T hT
  simp only [List.getElem?_toArray, List.getElem?_cons_succ, List.getElem?_cons_zero, Option.some.injEq] at t0 t2 t3 t5
  subst t0 t2 t3 t5
  have hlt : (p : Int) < (n : Int) := by omega
  have hp0 : (0 : Int) ≤ (p : Int) := by omega
  obtain ⟨ad, rfl, hc⟩ := hel p (by omega)
  have hpl : p < l.length := by omega
  have hx : l.drop p = l.getD p 0 :: l.drop (p + 1) := by rw [List.drop_eq_getElem_cons hpl]; simp [List.getD_eq_getElem?_getD, List.getElem?_eq_getElem hpl]
  have hxr := hr (l.getD p 0) (by simp [List.getD_eq_getElem?_getD, List.getElem?_eq_getElem hpl])
  rw [hx, List.sum_cons]
  generalize l.getD p 0 = y at hc hxr hx ⊢
  have hy1 : y < 256 := hxr.2
  have hy0 : 0 ≤ y := hxr.1
  have hwp : IntKind.i64.wrap ((p : Int) + 1) = ((p + 1 : Nat) : Int) := by rw [IntKind.wrap_i64]; omega
  have hwx : IntKind.u8.wrap (s + y) = (s + y) % 256 := IntKind.wrap_u8 _
  have hend : (s + (y + (l.drop (p + 1)).sum)) % 256 = ((s + y) % 256 + (l.drop (p + 1)).sum) % 256 := by omega
  rw [hend]
  simp only [Tq.c68, cR, cL, cB, cLp] at ih' ⊢
  repeat (first
   | refine RT.seq ?_
   | refine RT.block ?_
   | refine RT.loop ?_
   | refine RT.inBlock ?_
   | refine RT.skip ?_
   | refine RT.regionEnd ?_
   | (refine RT.region ?_; simp only [List.size_toArray, List.length_cons, List.length_nil, Nat.reduceAdd, Nat.zero_add, List.range, List.range.loop])
   | (refine RT.cond true rfl ?_; simp only [if_true, if_false, Bool.false_eq_true, ↓reduceIte])
   | (refine RT.cond false rfl ?_; simp only [if_true, if_false, Bool.false_eq_true, ↓reduceIte])
   | refine RT.exit rfl ?_
   | (apply RT.valw rfl rfl (by k_ne); (case hr => go_simp; (try simp only [hwp, hwx]); (try w_num); (try rfl)); walk_nrm; (try simp only [hwp, hwx]); (try w_num)))
  refine RT.inLoop ?_
  exact ih' ((s + y) % 256) (by omega) _ rfl rfl rfl rfl rfl
set_option maxRecDepth 100000 in
set_option maxHeartbeats 8000000 in
theorem bpdu_sum.calls (A : Option Addr) (c : Nat) (xs : List Int) (r : Int) (w : World) (hr : Kd.C (Kd.int .u8) w A xs.length xs) (hc : xs.length ≤ c) (h : bpdu_sum.f xs = some r) :
  Calls Tq.prog 68 #[.slice A xs.length c] w fun e w' => e = .returned (.int .u8 r) ∧ Below w.heap.size w w' := by
 unfold bpdu_sum.f at h
 split at h
 case isFalse => cases h
 rename_i hb
 obtain ⟨hr0, hs⟩ := hb
 obtain rfl := Option.some.inj h
 have hel : ∀ p, p < xs.length → ∃ ad, A = some ad ∧ w.cell? (ad.add p) = some (.int .u8 (xs.getD p 0)) := by
  intro p hp
  obtain ⟨_, _, h3⟩ := hr
  obtain ⟨ad, rfl, h4⟩ := h3 (by omega)
  obtain ⟨cells, k1, k2, k3⟩ := h4 p (xs.getD p 0) (by simp [List.getD_eq_getElem?_getD, List.getElem?_eq_getElem hp])
  have k2' : cells = [.int .u8 (xs.getD p 0)] := k2
  subst k2'
  have := k3 0 (.int .u8 (xs.getD p 0)) rfl
  refine ⟨ad, rfl, ?_⟩
  have e : (p * (Kd.int .u8).sz + 0) = p := by show p * 1 + 0 = p; omega
  rw [e] at this
  exact this
 intro cs
 have hloop := loopS (A := A) (n := xs.length) (c := c) (l := xs) (w := w) (cs := cs) rfl hel hr0 hs xs.length 0 (by omega) 0 (by omega)
 have hen : Frame.enter Tq.prog 68 #[.slice A xs.length c] .normal = (base 68).at ⟨#[.slice A xs.length c, undef, undef, undef, undef, undef, undef, undef, undef, undef, undef, undef, undef, undef, undef, undef], []⟩ [.code Tq.c68] := by
  rw [enter_at (c := Tq.c68) _ Tq.func68 (by unfold Tq.f68; rfl)]
  rw [Tq.ntmps68]
  rfl
 suffices hx : RT (GoalS cs w (xs.sum % 256)) ((base 68).at ⟨#[.slice A xs.length c, undef, undef, undef, undef, undef, undef, undef, undef, undef, undef, undef, undef, undef, undef, undef], []⟩ [.code Tq.c68]) cs w by
  obtain ⟨N, f2, cs2, w2, h1, T, todo, rfl, h2, rfl, rfl⟩ := hx
  refine ⟨.returned (.int .u8 (xs.sum % 256)), s5 w, _, ⟨rfl, s5_below w⟩, ⟨N, by rw [hen]; exact h1⟩, rfl, rfl, rfl, rfl, Tq.f68, Tq.func68, ?_⟩
  have h2' : T[2]?.getD undef = .int .u8 (xs.sum % 256) := by rw [← Array.getD_eq_getD_getElem?]; exact h2
  simp [results, Tq.results68, Frame.at, h2', go_sem]
 rw [List.drop_zero, Int.zero_add] at hloop
 have hle : ((xs.length : Nat) : Int) ≤ 1000000000 := by omega
 have h0l : (0 : Int) ≤ ((xs.length : Nat) : Int) := by omega
 have hcl : ((xs.length : Nat) : Int) ≤ ((c : Nat) : Int) := by omega
 generalize xs.length = n at *
 have hwp : True := trivial
 have hwx : True := trivial
 simp only [Tq.c68, cR, cL, cB, cLp] at hloop ⊢
 repeat (first
  | refine RT.seq ?_
  | refine RT.block ?_
  | refine RT.inLoop ?_
  | refine RT.inBlock ?_
  | refine RT.skip ?_
  | refine RT.regionEnd ?_
  | (refine RT.region ?_; simp only [List.size_toArray, List.length_cons, List.length_nil, Nat.reduceAdd, Nat.zero_add, List.range, List.range.loop])
  | (refine RT.cond true rfl ?_; simp only [if_true, if_false, Bool.false_eq_true, ↓reduceIte])
  | (refine RT.cond false rfl ?_; simp only [if_true, if_false, Bool.false_eq_true, ↓reduceIte])
  | refine RT.exit rfl ?_
  | (apply RT.valw rfl rfl (by k_ne); (case hr => go_simp; (try simp only [hwp, hwx]); (try w_num); (try rfl)); walk_nrm; (try simp only [hwp, hwx]); (try w_num)))
 refine RT.loop ?_
 exact hloop _ rfl rfl rfl rfl rfl
end Go.Proofs.Ytnikfjfcbpeieaa.EBp
end
