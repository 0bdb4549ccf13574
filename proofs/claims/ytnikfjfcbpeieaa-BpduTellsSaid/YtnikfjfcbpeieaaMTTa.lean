/- The contract of mac.Bytes (by hand). -/
/- The contract of frame.Parse (by hand). -/
import Derived.Test.YtnikfjfcbpeieaaMTQq
import Derived.Test.YtnikfjfcbpeieaaProg
import Derived.Below
import Derived.Deep.Draws
import Derived.Deep.AppendLies
import Derived.Maps.AppendAt
import Derived.OwnWalk
import Derived.Laws.BytesArg
import Derived.Laws.MakeOwn
import Derived.Laws.OwnMore
import Derived.Deep.OwnRows
import Derived.Tactics
import Derived.Lib.ConvBytes
import Derived.Laws.Slices
import Derived.WalkKit
import Derived.KernelRfl
import Derived.RowKit3
import Derived.Deep.LoopGhost
import Derived.Deep.QuietTactic
import Derived.BigQuiet
import Derived.WideLaws
import Derived.Deep.DeepCutAuto
import Derived.Deep.CutBlock
import Derived.Deep.RegionHeld3
import Derived.Laws.Rows
import Derived.Lib.AppendStr
import Derived.ArgAppend
import Derived.Laws.IdiomCopy
import Derived.OrdersHeld
import Derived.Laws.BitsLemmas
import Derived.RowKit
import Derived.Test.YtnikfjfcbpeieaaMTW
import Derived.LoopN
import Derived.Outline
import Derived.RegionTactic
import Derived.ChangeAlike
import Derived.Lib.Hide
import Derived.Lib.LazyBuf
import Derived.Laws.NewBlocks
section
namespace Go.Proofs.Ytnikfjfcbpeieaa.PBa
open Go.RowKit Go.Proofs.YtnikfjfcbpeieaaW.PrintWords Go.Proofs.YtnikfjfcbpeieaaW.PrintLast Go.Proofs.YtnikfjfcbpeieaaW.PrintMore
attribute [local go_sem] max2_int min2_int max_two min_two max_three min_three max_four min_four   -- for this text's walks alone
set_option linter.unusedVariables false
set_option linter.unusedSimpArgs false
def errW : Option Int → Value
 | none => .nilIface
 | some c => .iface 0 (.int .i64 c)
theorem errW_none : errW none = .nilIface := rfl
theorem errW_some (c : Int) : errW (some c) = .iface 0 (.int .i64 c) := rfl
theorem info5 : (Tq.prog.info? 5).map (fun i => (i.zero, i.size, i.bytes)) = some (some (.int .u8 0), 1, 1) := by kernel_rfl
end Go.Proofs.Ytnikfjfcbpeieaa.PBa
end
section
namespace Go.Proofs.Ytnikfjfcbpeieaa.PBa
open Go.RowKit Go.Proofs.YtnikfjfcbpeieaaW.PrintWords Go.Proofs.YtnikfjfcbpeieaaW.PrintLast Go.Proofs.YtnikfjfcbpeieaaW.PrintMore
attribute [local go_sem] max2_int min2_int max_two min_two max_three min_three max_four min_four   -- for this text's walks alone
set_option linter.unusedVariables false
set_option linter.unusedSimpArgs false
def mac_Right.f (a0 : Int) : Option (Bool) := if a0 ≥ 0 then (some (decide (a0 ≤ 281474976710655))) else (some false)
set_option maxHeartbeats 8000000 in
set_option maxRecDepth 100000 in
theorem mac_Right.calls (a0 : Int) (r : Bool) (w : World) (h : mac_Right.f a0 = some r) :
  Calls Tq.prog 35 #[.int .i64 a0] w fun e w' => e = .returned (.bool r) ∧ Drawn0 w w' := by
 have H := h
 unfold mac_Right.f at H
 clear h
 by_cases c2 : a0 ≥ 0
 ·rw [if_pos c2] at H
  have c2b0 : decide (0 ≤ a0) = true := decide_eq_true c2
  clear c2
  obtain rfl := Option.some.inj H
  go_enter Tq.func35, Try.ntmps35
  go_wp2
  go_ret
  exact ⟨by first | rfl | (simp; done) | (simp [*]; done), by repeat (first | exact Drawn0.refl _ | apply Drawn0.step)⟩
 ·rw [if_neg c2] at H
  have c2b0 : decide (0 ≤ a0) = false := decide_eq_false c2
  clear c2
  obtain rfl := Option.some.inj H
  go_enter Tq.func35, Try.ntmps35
  go_wp2
  go_ret
  exact ⟨by first | rfl | (simp; done) | (simp [*]; done), by repeat (first | exact Drawn0.refl _ | apply Drawn0.step)⟩
def mac_Right.Pure : Prop := ∀ (a0 : Int), (Lit.int .i64 a0).wf = true → mac_Right.f a0 = some true
theorem mac_Right.walk (P : mac_Right.Pure) (a0 : Int) (w : World) (w0 : (Lit.int .i64 a0).wf = true) :
  Calls Tq.prog 35 #[.int .i64 a0] w fun e w' => e = .returned (.bool true) ∧ Below w.heap.size w w' := by
 have h := P a0 w0
 refine (mac_Right.calls a0 true w h).mono ?_
 rintro e w' ⟨rfl, hd⟩
 exact ⟨rfl, hd.below⟩
def mac_Class.f (a0 : Int) : Option (Int × Int) := (mac_Right.f a0).bind fun t101 => (if t101 = true then (if (Go.bits .andNot .i64 a0 15) = 1652522221568 then (some (2, 0)) else (some (Go.bits .and .i64 (a0 / 1099511627776) 1, 0))) else (some (0, 1)))
set_option maxHeartbeats 8000000 in
set_option maxRecDepth 100000 in
theorem mac_Class.calls (a0 : Int) (r1 : Int) (r2 : Int) (w : World) (h : mac_Class.f a0 = some (r1, r2)) :
  Calls Tq.prog 21 #[.int .i64 a0] w fun e w' => e = .returned (.tuple #[.int .i64 r1, .int .i64 r2]) ∧ Drawn0 w w' := by
 have H := h
 unfold mac_Class.f at H
 clear h
 replace H := Option.bind_eq_some_iff.mp H
 obtain ⟨t101, A20, H⟩ := H
 try dsimp only at H
 have A2 := Aside0.mk A20
 clear A20
 by_cases c3 : t101 = true
 case' neg =>
  replace c3 := Bool.eq_false_iff.mpr c3
  subst c3
  rw [if_neg (show ¬ (false = true) by decide)] at H
  simp only [Option.some.injEq, Prod.mk.injEq] at H
  obtain ⟨rfl, rfl⟩ := H
 case' pos =>
  subst c3
  rw [if_pos rfl] at H
  by_cases c4 : (Go.bits .andNot .i64 a0 15) = 1652522221568
  case' neg =>
   rw [if_neg c4] at H
   have c4b0 : ((Go.bits .andNot .i64 a0 15) == 1652522221568) = false := beq_eq_false_iff_ne.mpr c4
   have c4b1 : ((Go.bits .andNot .i64 a0 15) != 1652522221568) = true := bne_iff_ne.mpr c4
   simp only [Option.some.injEq, Prod.mk.injEq] at H
   obtain ⟨rfl, rfl⟩ := H
  case' pos =>
   rw [if_pos c4] at H
   have c4b0 : ((Go.bits .andNot .i64 a0 15) == 1652522221568) = true := beq_iff_eq.mpr c4
   have c4b1 : ((Go.bits .andNot .i64 a0 15) != 1652522221568) = false := bne_eq_false_iff_eq.mpr c4
   clear c4
   simp only [Option.some.injEq, Prod.mk.injEq] at H
   obtain ⟨rfl, rfl⟩ := H
 all_goals
  go_enter Tq.func21, Try.ntmps21
  go_wp2_with (first | ((with_reducible refine gate_callee (f := 35) rfl ?_); refine goesL_ (some 6) rfl rfl Tq.func35 (by kernel_rfl) rfl #[.int .i64 a0] rfl (by (try simp only [List.map_toArray, List.map_cons, List.map_nil]); first | done | rfl | (simp only [List.length_drop, List.length_take]; rfl)) ?_; (with_reducible refine (mac_Right.calls a0 _ _ A2.out).mono ?_); rintro e w' ⟨rfl, ⟨nd, rfl⟩⟩; refine ⟨_, rfl, ?_⟩))
  go_ret2
  exact ⟨by first | rfl | (simp; done) | (simp [*]; done), by repeat (first | exact Drawn0.refl _ | apply Drawn0.step)⟩
def mac_Of.l0 : Nat → ByteArray → Int → Int → Option (Int × Int)
 | 0, _, _, _ => none
 | k + 1, x0, x4, x14 => if x14 < 6 then (if 0 ≤ x14 then (if x14 < (x0.size : Int) then (mac_Of.l0 k x0 (Go.bits .or .i64 (wrap64 (x4 * 256)) (wrap64 (bt x0 x14))) (wrap64 (x14 + 1))) else (none)) else (none)) else (some (x4, 0))
def mac_Of.f (k : Nat) (a0 : ByteArray) : Option (Int × Int) := if (a0.size : Int) < 6 then (some (0, 7)) else (if (a0.size : Int) > 6 then (some (0, 8)) else (mac_Of.l0 k a0 0 0))
set_option maxHeartbeats 8000000 in
set_option maxRecDepth 100000 in
theorem mac_Of.calls (k : Nat) (a0 : ByteArray) (r1 : Int) (r2 : Int) (w : World) (h : mac_Of.f k a0 = some (r1, r2)) :
  Calls Tq.prog 28 #[.string a0] w fun e w' => e = .returned (.tuple #[.int .i64 r1, .int .i64 r2]) ∧ Drawn0 w w' := by
 have H := h
 unfold mac_Of.f at H
 clear h
 by_cases c2 : (a0.size : Int) < 6
 ·rw [if_pos c2] at H
  have c2b0 : decide ((a0.size : Int) < 6) = true := decide_eq_true c2
  have c2b1 : decide (a0.size < 6) = true := decide_eq_true (by omega)
  clear c2
  simp only [Option.some.injEq, Prod.mk.injEq] at H
  obtain ⟨rfl, rfl⟩ := H
  go_enter Tq.func28, Try.ntmps28
  go_wp2
  go_ret2
  exact ⟨by first | rfl | (simp; done) | (simp [*]; done), by repeat (first | exact Drawn0.refl _ | apply Drawn0.step)⟩
 ·rw [if_neg c2] at H
  have c2b0 : decide ((a0.size : Int) < 6) = false := decide_eq_false c2
  have c2b1 : decide (a0.size < 6) = false := decide_eq_false (by omega)
  clear c2
  by_cases c3 : (a0.size : Int) > 6
  ·rw [if_pos c3] at H
   have c3b0 : decide (6 < (a0.size : Int)) = true := decide_eq_true c3
   have c3b1 : decide (6 < a0.size) = true := decide_eq_true (by omega)
   clear c3
   simp only [Option.some.injEq, Prod.mk.injEq] at H
   obtain ⟨rfl, rfl⟩ := H
   go_enter Tq.func28, Try.ntmps28
   go_wp2
   go_ret2
   exact ⟨by first | rfl | (simp; done) | (simp [*]; done), by repeat (first | exact Drawn0.refl _ | apply Drawn0.step)⟩
  ·rw [if_neg c3] at H
   have c3b0 : decide (6 < (a0.size : Int)) = false := decide_eq_false c3
   have c3b1 : decide (6 < a0.size) = false := decide_eq_false (by omega)
   clear c3
   have H' := Aside0.mk H
   clear H
   go_enter Tq.func28, Try.ntmps28
   go_wp2
   go_loopg [4, 14] k (fun kq v4 v14 w' => ∃ (x4_1 : Int) (x14_1 : Int), v4 = .int .i64 x4_1 ∧ v14 = .int .i64 x14_1 ∧ Aside0 (mac_Of.l0 kq a0 x4_1 x14_1 = some (r1, r2)) ∧ Aside0 (kq ≤ k) ∧ Drawn0 w w')
   case atStart => exact ⟨(0), (0), (by first | rfl | (simp; done) | (simp [*]; done)), (by first | rfl | (simp; done) | (simp [*]; done)), H', ⟨Nat.le_refl _⟩, by repeat (first | exact Drawn0.refl _ | apply Drawn0.step)⟩
   case round =>
    clear H'
    try clear c2
    try clear c2b0
    try clear c2b1
    try clear p2
    try clear c3
    try clear c3b0
    try clear c3b1
    obtain ⟨x4_1, x14_1, rfl, rfl, HA, HK1, ⟨m1, rfl⟩⟩ := hrel
    cases gk with
    | zero => exact absurd HA.out (by simp [mac_Of.l0])
    | succ k1 =>
     have H := HA.out
     clear HA
     simp only [mac_Of.l0] at H
     by_cases c4 : x14_1 < 6
     ·rw [if_pos c4] at H
      have c4b0 : decide (x14_1 < 6) = true := decide_eq_true c4
      clear c4
      by_cases c5 : 0 ≤ x14_1
      ·rw [if_pos c5] at H
       have c5b0 : decide (0 ≤ x14_1) = true := decide_eq_true c5
       clear c5
       by_cases c6 : x14_1 < (a0.size : Int)
       ·rw [if_pos c6] at H
        have c6b0 : decide (x14_1 < (a0.size : Int)) = true := decide_eq_true c6
        clear c6
        have H' := Aside0.mk H
        clear H
        have p7 : 0 ≤ (x14_1 : Int) := of_decide_eq_true (by first | (with_reducible assumption) | assumption)
        have q7 : x14_1 < (a0.size : Int) := of_decide_eq_true (by first | (with_reducible assumption) | assumption)
        have hx7 := bt_at a0 x14_1
        replace p7 := eq_true p7
        replace q7 := eq_true q7
        go_wp2
        go_roundg k1
        case measure => have := HK1.out; omega
        case rel => exact ⟨(Go.bits .or .i64 (wrap64 (x4_1 * 256)) (wrap64 (bt a0 x14_1))), (wrap64 (x14_1 + 1)), (by first | rfl | (simp; done) | (simp [*]; done)), (by first | rfl | (simp; done) | (simp [*]; done)), H', ⟨by have := HK1.out; omega⟩, by repeat (first | exact Drawn0.refl _ | apply Drawn0.step)⟩
       ·rw [if_neg c6] at H
        exact absurd H (by simp)
      ·rw [if_neg c5] at H
       exact absurd H (by simp)
     ·rw [if_neg c4] at H
      have c4b0 : decide (x14_1 < 6) = false := decide_eq_false c4
      clear c4
      simp only [Option.some.injEq, Prod.mk.injEq] at H
      obtain ⟨rfl, rfl⟩ := H
      go_wp2
      go_ret2
      exact ⟨by first | rfl | (simp; done) | (simp [*]; done), by repeat (first | exact Drawn0.refl _ | apply Drawn0.step)⟩
def frame_Right.f (a0_0 : Int) (a0_1 : Int) (a0_2 : Int) (a0_3 : ByteArray) : Option (Bool) := (mac_Class.f a0_1).bind fun bt103 => (if bt103.2 = 0 then (if bt103.1 = 0 then ((mac_Right.f a0_0).bind fun t105 => (if t105 = true then (if a0_2 ≥ 0 then (if a0_2 ≤ 65535 then (some (decide ((a0_3.size : Int) ≤ 100))) else (some false)) else (some false)) else (some false))) else (some false)) else (some false))
set_option maxHeartbeats 8000000 in
set_option maxRecDepth 100000 in
theorem frame_Right.calls (a0_0 : Int) (a0_1 : Int) (a0_2 : Int) (a0_3 : ByteArray) (r : Bool) (w : World) (h : frame_Right.f a0_0 a0_1 a0_2 a0_3 = some r) :
  Calls Tq.prog 18 #[.agg #[.int .i64 a0_0, .int .i64 a0_1, .int .i64 a0_2, .string a0_3]] w fun e w' => e = .returned (.bool r) ∧ Below w.heap.size w w' := by
 have hu23 := Tq.underlying23
 have HB := Aside0.mk (Below.refl w.heap.size w)
 have H := h
 unfold frame_Right.f at H
 clear h
 replace H := Option.bind_eq_some_iff.mp H
 obtain ⟨⟨t103, t104⟩, A20, H⟩ := H
 try dsimp only at H
 have A2 := Aside0.mk A20
 clear A20
 by_cases c3 : t104 = 0
 case' neg =>
  rw [if_neg c3] at H
  have c3b0 : (t104 == 0) = false := beq_eq_false_iff_ne.mpr c3
  have c3b1 : (t104 != 0) = true := bne_iff_ne.mpr c3
  obtain rfl := Option.some.inj H
 case' pos =>
  rw [if_pos c3] at H
  have c3b0 : (t104 == 0) = true := beq_iff_eq.mpr c3
  have c3b1 : (t104 != 0) = false := bne_eq_false_iff_eq.mpr c3
  clear c3
  by_cases c4 : t103 = 0
  case' neg =>
   rw [if_neg c4] at H
   have c4b0 : (t103 == 0) = false := beq_eq_false_iff_ne.mpr c4
   have c4b1 : (t103 != 0) = true := bne_iff_ne.mpr c4
   obtain rfl := Option.some.inj H
  case' pos =>
   rw [if_pos c4] at H
   have c4b0 : (t103 == 0) = true := beq_iff_eq.mpr c4
   have c4b1 : (t103 != 0) = false := bne_eq_false_iff_eq.mpr c4
   clear c4
   replace H := Option.bind_eq_some_iff.mp H
   obtain ⟨t105, A50, H⟩ := H
   try dsimp only at H
   have A5 := Aside0.mk A50
   clear A50
   by_cases c6 : t105 = true
   case' neg =>
    replace c6 := Bool.eq_false_iff.mpr c6
    subst c6
    rw [if_neg (show ¬ (false = true) by decide)] at H
    obtain rfl := Option.some.inj H
   case' pos =>
    subst c6
    rw [if_pos rfl] at H
    by_cases c7 : a0_2 ≥ 0
    case' neg =>
     rw [if_neg c7] at H
     have c7b0 : decide (0 ≤ a0_2) = false := decide_eq_false c7
     clear c7
     obtain rfl := Option.some.inj H
    case' pos =>
     rw [if_pos c7] at H
     have c7b0 : decide (0 ≤ a0_2) = true := decide_eq_true c7
     clear c7
     by_cases c8 : a0_2 ≤ 65535
     case' neg =>
      rw [if_neg c8] at H
      have c8b0 : decide (a0_2 ≤ 65535) = false := decide_eq_false c8
      clear c8
      obtain rfl := Option.some.inj H
     case' pos =>
      rw [if_pos c8] at H
      have c8b0 : decide (a0_2 ≤ 65535) = true := decide_eq_true c8
      clear c8
      obtain rfl := Option.some.inj H
 all_goals
  go_enter Tq.func18, Try.ntmps18
  go_wp2_with (first | ((with_reducible refine gate_dst (N := 1) rfl ?_); (try (refine gate_guard (by rfl) ?_; dsimp only)); refine box_event ?hg (N := 1) ?hd (cs := #[.int .i64 a0_0, .int .i64 a0_1, .int .i64 a0_2, .string a0_3]) (t := 23) ?hr ?_; (case hd => rfl); (case hg => rfl); (case hr => first | (go_simp; done) | (go_simp; rfl)); intro gb102 hg w15 hbox hb; have BK102 := Aside0.mk (hbox); have GW102 := Aside0.mk ((by rw [hg]; exact (below_size (by exact bw HB.out)) : w.heap.size ≤ gb102)); have GE102 := Aside0.mk ((by rw [hg]; exact (below_size (by exact bw HB.out)) : w.heap.size ≤ gb102)); replace HB := Aside0.mk (below_step (by exact bw HB.out) hb); clear hb hbox hg; obtain ⟨hcz16_0, hcz16_1, hcz16_2, hcz16_3, hfz16_0, hfz16_1, hfz16_2, hfz16_3⟩ := cs4 BK102.out) | ((with_reducible refine gate_callee (f := 21) rfl ?_); refine goesL_ (some 8) rfl rfl Tq.func21 (by kernel_rfl) rfl #[.int .i64 a0_1] rfl (by (try simp only [List.map_toArray, List.map_cons, List.map_nil]); first | done | rfl | (simp only [List.length_drop, List.length_take]; rfl)) ?_; (with_reducible refine (mac_Class.calls a0_1 t103 t104 _ A2.out).mono ?_); rintro e w' ⟨rfl, ⟨nd, rfl⟩⟩; refine ⟨_, rfl, ?_⟩) | (go_at_call 35; (with_reducible refine (mac_Right.calls a0_0 _ _ A5.out).mono ?_); rintro e w' ⟨rfl, ⟨nd, rfl⟩⟩))
  go_ret
  exact ⟨by first | rfl | (simp [errW_none, errW_some] <;> rfl) | (simp [*, errW_none, errW_some] <;> rfl), by exact bw HB.out⟩
def frame_joined.l0 : Nat → List Int → List ByteArray → Int → Int → Option (ByteArray)
 | 0, _, _, _, _ => none
 | k + 1, x3, x6, x7, x8 => if x8 < x7 then (if 0 ≤ x8 then (if x8 < (x6.length : Int) then (if x3.length + (rdOf ByteArray.empty x6 x8).size < 140737488355328 then (frame_joined.l0 k (x3 ++ bytesOf (rdOf ByteArray.empty x6 x8)) x6 x7 (wrap64 (x8 + 1))) else (none)) else (none)) else (none)) else (some (strOfNums x3))
def frame_joined.f (k : Nat) (l0 : List ByteArray) : Option (ByteArray) := frame_joined.l0 k ([] : List Int) l0 (l0.length : Int) 0
theorem frame_joined.mono_l : ∀ k, (∀ y0 y1 y2 y3, LeO (frame_joined.l0 k y0 y1 y2 y3) (frame_joined.l0 (k + 1) y0 y1 y2 y3))
 | 0 => fun _ _ _ _ r h => by simp [frame_joined.l0] at h
 | k + 1 => by
  have ih0 := frame_joined.mono_l k
  ·intro y0 y1 y2 y3
   unfold frame_joined.l0
   repeat' first
   | (with_reducible exact ih0 _ _ _ _)
   | (with_reducible exact LeO.refl _)
   | (with_reducible exact LeO.none _)
   | (with_reducible refine LeO.ite ?_ ?_)
   | (with_reducible refine LeO.bind ?_ (fun _ => ?_))
   | exact ih0 _ _ _ _
   | exact LeO.none _
   | refine LeO.ite ?_ ?_
   | refine LeO.bind ?_ (fun _ => ?_)
theorem frame_joined.mono : ∀ a0 k, LeO (frame_joined.f k a0) (frame_joined.f (k + 1) a0) := by
 intro a0 k
 have ih0 := frame_joined.mono_l k
 unfold frame_joined.f
 repeat' first
   | (with_reducible exact ih0 _ _ _ _)
   | (with_reducible exact LeO.refl _)
   | (with_reducible exact LeO.none _)
   | (with_reducible refine LeO.ite ?_ ?_)
   | (with_reducible refine LeO.bind ?_ (fun _ => ?_))
   | exact ih0 _ _ _ _
   | exact LeO.none _
   | refine LeO.ite ?_ ?_
   | refine LeO.bind ?_ (fun _ => ?_)
set_option maxHeartbeats 8000000 in
set_option maxRecDepth 100000 in
theorem frame_joined.calls (k : Nat) (A0 : Option Addr) (c0 : Nat) (l0 : List ByteArray) (r : ByteArray) (w : World) (hr0 : Kd.C Kd.string w A0 l0.length l0) (hc0 : l0.length ≤ c0) (h : frame_joined.f k l0 = some r) :
  Calls Tq.prog 62 #[.slice A0 l0.length c0] w fun e w' => e = .returned (.string r) ∧ Below w.heap.size w w' := by
 have HR0 := Aside0.mk hr0
 have HC0 := Aside0.mk hc0
 clear hr0 hc0
 have HB := Aside0.mk (Below.refl w.heap.size w)
 have H := h
 unfold frame_joined.f at H
 clear h
 have H' := Aside0.mk H
 clear H
 go_enter Tq.func62, Try.ntmps62
 go_wp2
 go_loopg [3, 8] k (fun kq v3 v8 w' => ∃ (x3_1 : List Int) (x8_1 : Int), v8 = .int .i64 x8_1 ∧ Aside0 (frame_joined.l0 kq x3_1 l0 (l0.length : Int) x8_1 = some r) ∧ Aside0 (kq ≤ k) ∧ Aside0 (Kd.R (Kd.int .u8) 5 w' w.heap.size (fun _ => True) v3 x3_1) ∧ Aside0 (Below w.heap.size w w'))
 case atStart => exact ⟨(([] : List Int)), (0), (by first | rfl | (simp; done) | (simp [*]; done)), H', ⟨Nat.le_refl _⟩, ⟨by first | exact Kd.R_nil _ _ _ _ _ | exact Kd.N_nil _ _ _ _ _ | exact Kd.V_nil _ _ _ _ _ | exact Kd.Q_nil _ _ _ _ _ | exact Kd.S_nil _ _ _ _ _⟩, ⟨by exact bw HB.out⟩⟩
 case round =>
  clear H'
  obtain ⟨x3_1, x8_1, rfl, HA, HK1, HO_3, HB⟩ := hrel
  cases gk with
  | zero => exact absurd HA.out (by simp [frame_joined.l0])
  | succ k1 =>
   have H := HA.out
   clear HA
   simp only [frame_joined.l0] at H
   by_cases c2 : x8_1 < (l0.length : Int)
   ·rw [if_pos c2] at H
    have c2b0 : decide (x8_1 < (l0.length : Int)) = true := decide_eq_true c2
    clear c2
    by_cases c3 : 0 ≤ x8_1
    ·rw [if_pos c3] at H
     have c3b0 : decide (0 ≤ x8_1) = true := decide_eq_true c3
     clear c3
     by_cases c4 : x8_1 < (l0.length : Int)
     ·rw [if_pos c4] at H
      have c4b0 : decide (x8_1 < (l0.length : Int)) = true := decide_eq_true c4
      clear c4
      by_cases c5 : x3_1.length + (rdOf ByteArray.empty l0 x8_1).size < 140737488355328
      ·rw [if_pos c5] at H
       have LMc5 := Aside0.mk c5
       clear c5
       obtain ⟨y107, hy107⟩ : ∃ y_ : List Int, y_ = (x3_1 ++ bytesOf (rdOf ByteArray.empty l0 x8_1)) := ⟨_, rfl⟩
       replace H : (frame_joined.l0 k1 y107 l0 (l0.length : Int) (wrap64 (x8_1 + 1))) = some r := by first | (rw [hy107]; with_reducible exact H) | (have H2_ := (Option.bind_some _ _).symm.trans H; rw [hy107]; with_reducible exact H2_) | (have H2_ := (Option.bind_some _ _).symm.trans H; with_reducible exact H2_) | with_reducible exact H | (rw [hy107]; exact H) | exact H
       have Ny107 := Aside0.mk hy107
       clear hy107
       have H' := Aside0.mk H
       clear H
       have p106 : 0 ≤ (x8_1 : Int) := of_decide_eq_true (by first | (with_reducible assumption) | assumption)
       have q106 : x8_1 < (l0.length : Int) := of_decide_eq_true (by first | (with_reducible assumption) | assumption)
       obtain ⟨ad106, e106, hx106_0⟩ := Kd.at_string HR0.out x8_1 p106 q106
       cases e106
       replace hx106_0 := (HB.out.cell (World.block_lt_of_cell? w _ hx106_0)).trans hx106_0
       replace p106 := eq_true p106
       replace q106 := eq_true q106
       go_wp2_with (first | (at_builtin; refine print_append_str (w0 := w) w.heap.size rfl (.tmp 12) _ 35 9 5 rfl Tq.underlying35 Tq.underlying9 info5 u3 x3_1 (rdOf ByteArray.empty l0 x8_1) rfl rfl ?aO ?aB ?aS ?aL ?_; (case aB => exact (by exact bw HB.out)); (case aO => exact (Kd.own_of_R (by (with_reducible repeat (first | apply Kd.R_alloc | apply Kd.R_drewN | apply Kd.R_drew)); exact HO_3.out))); (case aS => exact (below_size (by exact bw HB.out))); (case aL => have := LMc5.out; omega); intro v108 w6 ho0 hb hg; have ho := Kd.R_of_own (h1 := fun _ => rfl) (ok := fun _ => True) ho0 (fun _ _ => trivial); clear ho0; have hat := True.intro; rw [← Ny107.out] at ho; change Kd.R (Kd.int .u8) 5 w6 w.heap.size (fun _ => True) v108 y107 at ho; have n0_ := Aside0.mk (hb); have n1_ := Aside0.mk (ho); clear HB; clear HO_3; have HB := n0_; have HO109 := n1_; clear n0_ n1_; clear ho hb hg hat))
       go_roundg k1
       case measure => have := HK1.out; omega
       case rel => exact ⟨(y107), (wrap64 (x8_1 + 1)), (by first | rfl | (simp; done) | (simp [*]; done)), H', ⟨by have := HK1.out; omega⟩, ⟨by (with_reducible repeat (first | apply Kd.R_alloc | apply Kd.R_drewN | apply Kd.R_drew)); exact HO109.out⟩, ⟨by exact bw HB.out⟩⟩
      ·rw [if_neg c5] at H
       exact absurd H (by simp)
     ·rw [if_neg c4] at H
      exact absurd H (by simp)
    ·rw [if_neg c3] at H
     exact absurd H (by simp)
   ·rw [if_neg c2] at H
    have c2b0 : decide (x8_1 < (l0.length : Int)) = false := decide_eq_false c2
    clear c2
    obtain rfl := Option.some.inj H
    have hcv7 := own_string (P := Tq.prog) Tq.underlying35 Tq.underlying5 Tq.underlying9 (Kd.own_of_R HO_3.out)
    go_wp2
    go_ret
    exact ⟨by first | rfl | (simp [errW_none, errW_some] <;> rfl) | (simp [*, errW_none, errW_some] <;> rfl), by exact bw HB.out⟩
set_option maxHeartbeats 8000000 in
set_option maxRecDepth 100000 in
def footwayref01_Right.f (a0 : Int) : Option (Bool) := if a0 ≥ 0 then (some (decide (a0 < 281474976710656))) else (some false)
set_option maxHeartbeats 8000000 in
set_option maxRecDepth 100000 in
theorem footwayref01_Right.calls (a0 : Int) (r : Bool) (w : World) (h : footwayref01_Right.f a0 = some r) :
  Calls Tq.prog 36 #[.int .i64 a0] w fun e w' => e = .returned (.bool r) ∧ Drawn0 w w' := by
 have H := h
 unfold footwayref01_Right.f at H
 clear h
 by_cases c2 : a0 ≥ 0
 ·rw [if_pos c2] at H
  have c2b0 : decide (0 ≤ a0) = true := decide_eq_true c2
  clear c2
  obtain rfl := Option.some.inj H
  go_enter Tq.func36, Try.ntmps36
  go_wp2
  go_ret
  exact ⟨by first | rfl | (simp; done) | (simp [*]; done), by repeat (first | exact Drawn0.refl _ | apply Drawn0.step)⟩
 ·rw [if_neg c2] at H
  have c2b0 : decide (0 ≤ a0) = false := decide_eq_false c2
  clear c2
  obtain rfl := Option.some.inj H
  go_enter Tq.func36, Try.ntmps36
  go_wp2
  go_ret
  exact ⟨by first | rfl | (simp; done) | (simp [*]; done), by repeat (first | exact Drawn0.refl _ | apply Drawn0.step)⟩
def footwayref01_Right.Pure : Prop := ∀ (a0 : Int), (Lit.int .i64 a0).wf = true → footwayref01_Right.f a0 = some true
theorem footwayref01_Right.walk (P : footwayref01_Right.Pure) (a0 : Int) (w : World) (w0 : (Lit.int .i64 a0).wf = true) :
  Calls Tq.prog 36 #[.int .i64 a0] w fun e w' => e = .returned (.bool true) ∧ Below w.heap.size w w' := by
 have h := P a0 w0
 refine (footwayref01_Right.calls a0 true w h).mono ?_
 rintro e w' ⟨rfl, hd⟩
 exact ⟨rfl, hd.below⟩
def footwayref01_Class.f (a0 : Int) : Option (Int) := if (wrap64 (Int.tdiv a0 16)) = 103282638848 then (some 2) else (if (Int.tmod (wrap64 (Int.tdiv a0 1099511627776)) 2) = 1 then (some 1) else (some 0))
set_option maxHeartbeats 8000000 in
set_option maxRecDepth 100000 in
theorem footwayref01_Class.calls (a0 : Int) (r : Int) (w : World) (h : footwayref01_Class.f a0 = some r) :
  Calls Tq.prog 26 #[.int .i64 a0] w fun e w' => e = .returned (.int .i64 r) ∧ Drawn0 w w' := by
 have H := h
 unfold footwayref01_Class.f at H
 clear h
 by_cases c2 : (wrap64 (Int.tdiv a0 16)) = 103282638848
 ·rw [if_pos c2] at H
  have c2b0 : ((wrap64 (Int.tdiv a0 16)) == 103282638848) = true := beq_iff_eq.mpr c2
  have c2b1 : ((wrap64 (Int.tdiv a0 16)) != 103282638848) = false := bne_eq_false_iff_eq.mpr c2
  clear c2
  obtain rfl := Option.some.inj H
  go_enter Tq.func26, Try.ntmps26
  go_wp2
  go_ret
  exact ⟨by first | rfl | (simp; done) | (simp [*]; done), by repeat (first | exact Drawn0.refl _ | apply Drawn0.step)⟩
 ·rw [if_neg c2] at H
  have c2b0 : ((wrap64 (Int.tdiv a0 16)) == 103282638848) = false := beq_eq_false_iff_ne.mpr c2
  have c2b1 : ((wrap64 (Int.tdiv a0 16)) != 103282638848) = true := bne_iff_ne.mpr c2
  by_cases c3 : (Int.tmod (wrap64 (Int.tdiv a0 1099511627776)) 2) = 1
  ·rw [if_pos c3] at H
   have c3b0 : ((Int.tmod (wrap64 (Int.tdiv a0 1099511627776)) 2) == 1) = true := beq_iff_eq.mpr c3
   have c3b1 : ((Int.tmod (wrap64 (Int.tdiv a0 1099511627776)) 2) != 1) = false := bne_eq_false_iff_eq.mpr c3
   clear c3
   obtain rfl := Option.some.inj H
   go_enter Tq.func26, Try.ntmps26
   go_wp2
   go_ret
   exact ⟨by first | rfl | (simp; done) | (simp [*]; done), by repeat (first | exact Drawn0.refl _ | apply Drawn0.step)⟩
  ·rw [if_neg c3] at H
   have c3b0 : ((Int.tmod (wrap64 (Int.tdiv a0 1099511627776)) 2) == 1) = false := beq_eq_false_iff_ne.mpr c3
   have c3b1 : ((Int.tmod (wrap64 (Int.tdiv a0 1099511627776)) 2) != 1) = true := bne_iff_ne.mpr c3
   obtain rfl := Option.some.inj H
   go_enter Tq.func26, Try.ntmps26
   go_wp2
   go_ret
   exact ⟨by first | rfl | (simp; done) | (simp [*]; done), by repeat (first | exact Drawn0.refl _ | apply Drawn0.step)⟩
def footwayref01_Bytes.l0 : Nat → Int → ByteArray → Int → Option (ByteArray)
 | 0, _, _, _ => none
 | k + 1, x0, x3, x4 => if x4 < 6 then ((some (([(Int.tmod x0 256) % 256] : List Int) : List Int)).bind fun y112 => (if (strOfNums y112).size + x3.size ≤ 9223372036854775807 then (footwayref01_Bytes.l0 k (wrap64 (Int.tdiv x0 256)) ((strOfNums y112) ++ x3) (wrap64 (x4 + 1))) else (none))) else (some x3)
def footwayref01_Bytes.f (k : Nat) (a0 : Int) : Option (ByteArray) := footwayref01_Bytes.l0 k a0 (⟨#[]⟩ : ByteArray) 0
theorem footwayref01_Bytes.mono_l : ∀ k, (∀ y0 y1 y2, LeO (footwayref01_Bytes.l0 k y0 y1 y2) (footwayref01_Bytes.l0 (k + 1) y0 y1 y2))
 | 0 => fun _ _ _ r h => by simp [footwayref01_Bytes.l0] at h
 | k + 1 => by
  have ih0 := footwayref01_Bytes.mono_l k
  ·intro y0 y1 y2
   unfold footwayref01_Bytes.l0
   repeat' first
   | (with_reducible exact ih0 _ _ _)
   | (with_reducible exact LeO.refl _)
   | (with_reducible exact LeO.none _)
   | (with_reducible refine LeO.ite ?_ ?_)
   | (with_reducible refine LeO.bind ?_ (fun _ => ?_))
   | exact ih0 _ _ _
   | exact LeO.none _
   | refine LeO.ite ?_ ?_
   | refine LeO.bind ?_ (fun _ => ?_)
theorem footwayref01_Bytes.mono : ∀ a0 k, LeO (footwayref01_Bytes.f k a0) (footwayref01_Bytes.f (k + 1) a0) := by
 intro a0 k
 have ih0 := footwayref01_Bytes.mono_l k
 unfold footwayref01_Bytes.f
 repeat' first
   | (with_reducible exact ih0 _ _ _)
   | (with_reducible exact LeO.refl _)
   | (with_reducible exact LeO.none _)
   | (with_reducible refine LeO.ite ?_ ?_)
   | (with_reducible refine LeO.bind ?_ (fun _ => ?_))
   | exact ih0 _ _ _
   | exact LeO.none _
   | refine LeO.ite ?_ ?_
   | refine LeO.bind ?_ (fun _ => ?_)
set_option maxHeartbeats 8000000 in
set_option maxRecDepth 100000 in
theorem footwayref01_Bytes.calls (k : Nat) (a0 : Int) (r : ByteArray) (w : World) (h : footwayref01_Bytes.f k a0 = some r) :
  Calls Tq.prog 37 #[.int .i64 a0] w fun e w' => e = .returned (.string r) ∧ Below w.heap.size w w' := by
 have HB := Aside0.mk (Below.refl w.heap.size w)
 have H := h
 unfold footwayref01_Bytes.f at H
 clear h
 have H' := Aside0.mk H
 clear H
 go_enter Tq.func37, Try.ntmps37
 go_wp2
 go_loopg [0, 3, 4] k (fun kq v0 v3 v4 w' => ∃ (x0_1 : Int) (x3_1 : ByteArray) (x4_1 : Int), v0 = .int .i64 x0_1 ∧ v3 = .string x3_1 ∧ v4 = .int .i64 x4_1 ∧ Aside0 (footwayref01_Bytes.l0 kq x0_1 x3_1 x4_1 = some r) ∧ Aside0 (kq ≤ k) ∧ Aside0 (Below w.heap.size w w'))
 case atStart => exact ⟨(a0), ((⟨#[]⟩ : ByteArray)), (0), (by first | rfl | (simp; done) | (simp [*]; done)), (by first | rfl | (simp; done) | (simp [*]; done)), (by first | rfl | (simp; done) | (simp [*]; done)), H', ⟨Nat.le_refl _⟩, ⟨by exact bw HB.out⟩⟩
 case round =>
  clear H'
  obtain ⟨x0_1, x3_1, x4_1, rfl, rfl, rfl, HA, HK1, HB⟩ := hrel
  cases gk with
  | zero => exact absurd HA.out (by simp [footwayref01_Bytes.l0])
  | succ k1 =>
   have H := HA.out
   clear HA
   simp only [footwayref01_Bytes.l0] at H
   by_cases c2 : x4_1 < 6
   ·rw [if_pos c2] at H
    have c2b0 : decide (x4_1 < 6) = true := decide_eq_true c2
    clear c2
    obtain ⟨y112, hy112⟩ : ∃ y_ : List Int, y_ = (([(Int.tmod x0_1 256) % 256] : List Int)) := ⟨_, rfl⟩
    replace H : (if (strOfNums y112).size + x3_1.size ≤ 9223372036854775807 then (footwayref01_Bytes.l0 k1 (wrap64 (Int.tdiv x0_1 256)) ((strOfNums y112) ++ x3_1) (wrap64 (x4_1 + 1))) else (none)) = some r := by first | (rw [hy112]; with_reducible exact H) | (have H2_ := (Option.bind_some _ _).symm.trans H; rw [hy112]; with_reducible exact H2_) | (have H2_ := (Option.bind_some _ _).symm.trans H; with_reducible exact H2_) | with_reducible exact H | (rw [hy112]; exact H) | exact H
    have Ny112 := Aside0.mk hy112
    clear hy112
    by_cases c3 : (strOfNums y112).size + x3_1.size ≤ 9223372036854775807
    ·rw [if_pos c3] at H
     have c3b0 := eq_true c3
     have c3b1 : decide ((strOfNums y112).size + x3_1.size ≤ 9223372036854775807) = true := decide_eq_true c3
     try have c3b2 : (9223372036854775807 < (strOfNums y112).size + x3_1.size) = False := eq_false (Nat.not_lt.2 c3)
     have H' := Aside0.mk H
     clear H
     go_wp2_with (first | ((with_reducible refine gate_dst (N := 12) rfl ?_); refine Kd.R_lit (Kd.int .u8) _ 5 ?hg (N := 12) ?hd (xs := ([(Int.tmod x0_1 256) % 256] : List Int)) (inner := [.int .u8 ((Int.tmod x0_1 256) % 256)]) (ok := fun _ => True) (okp := fun _ => True) ?hr ?hp (fun _ hk => hk) trivial (Below.refl _ _) (Nat.le_refl _) (by simp) ?_; (case hd => rfl); (case hg => rfl); (case hr => first | (go_simp; done) | (go_simp; rfl)); (case hp => exact (Reps.one (show Kd.M (Kd.int .u8) _ _ _ ((Int.tmod x0_1 256) % 256) [.int .u8 ((Int.tmod x0_1 256) % 256)] from rfl) (Reps.none _ _))); intro v113 w4 ho5 hb hg_ hnew_; clear hg_ hnew_; (first | rw [← Ny112.out] at ho5 | (simp only [Int.reduceToNat] at ho5; rw [← Ny112.out] at ho5)); have HO114 := Aside0.mk (Kd.R_lower ho5 (below_size (by exact bw HB.out))); replace HB := Aside0.mk (below_step (by exact bw HB.out) hb); clear hb ho5; have hcv6 := own_string (P := Tq.prog) Tq.underlying35 Tq.underlying5 Tq.underlying9 (Kd.own_of_R HO114.out)))
     go_roundg k1
     case measure => have := HK1.out; omega
     case rel => exact ⟨(wrap64 (Int.tdiv x0_1 256)), ((strOfNums y112) ++ x3_1), (wrap64 (x4_1 + 1)), (by first | rfl | (simp; done) | (simp [*]; done)), (by first | rfl | (simp; done) | (simp [*]; done)), (by first | rfl | (simp; done) | (simp [*]; done)), H', ⟨by have := HK1.out; omega⟩, ⟨by exact bw HB.out⟩⟩
    ·rw [if_neg c3] at H
     exact absurd H (by simp)
   ·rw [if_neg c2] at H
    have c2b0 : decide (x4_1 < 6) = false := decide_eq_false c2
    clear c2
    obtain rfl := Option.some.inj H
    go_wp2
    go_ret
    exact ⟨by first | rfl | (simp [errW_none, errW_some] <;> rfl) | (simp [*, errW_none, errW_some] <;> rfl), by exact bw HB.out⟩
def footwayref01_Of.l0 : Nat → ByteArray → Int → Int → Option (Int)
 | 0, _, _, _ => none
 | k + 1, x0, x3, x4 => if x4 < (x0.size : Int) then (if 0 ≤ x4 then (footwayref01_Of.l0 k x0 (wrap64 ((wrap64 (256 * x3)) + (wrap64 (bt x0 x4)))) (wrap64 (x4 + 1))) else (none)) else (some x3)
def footwayref01_Of.f (k : Nat) (a0 : ByteArray) : Option (Int) := footwayref01_Of.l0 k a0 0 0
theorem footwayref01_Of.mono_l : ∀ k, (∀ y0 y1 y2, LeO (footwayref01_Of.l0 k y0 y1 y2) (footwayref01_Of.l0 (k + 1) y0 y1 y2))
 | 0 => fun _ _ _ r h => by simp [footwayref01_Of.l0] at h
 | k + 1 => by
  have ih0 := footwayref01_Of.mono_l k
  ·intro y0 y1 y2
   unfold footwayref01_Of.l0
   repeat' first
   | (with_reducible exact ih0 _ _ _)
   | (with_reducible exact LeO.refl _)
   | (with_reducible exact LeO.none _)
   | (with_reducible refine LeO.ite ?_ ?_)
   | (with_reducible refine LeO.bind ?_ (fun _ => ?_))
   | exact ih0 _ _ _
   | exact LeO.none _
   | refine LeO.ite ?_ ?_
   | refine LeO.bind ?_ (fun _ => ?_)
theorem footwayref01_Of.mono : ∀ a0 k, LeO (footwayref01_Of.f k a0) (footwayref01_Of.f (k + 1) a0) := by
 intro a0 k
 have ih0 := footwayref01_Of.mono_l k
 unfold footwayref01_Of.f
 repeat' first
   | (with_reducible exact ih0 _ _ _)
   | (with_reducible exact LeO.refl _)
   | (with_reducible exact LeO.none _)
   | (with_reducible refine LeO.ite ?_ ?_)
   | (with_reducible refine LeO.bind ?_ (fun _ => ?_))
   | exact ih0 _ _ _
   | exact LeO.none _
   | refine LeO.ite ?_ ?_
   | refine LeO.bind ?_ (fun _ => ?_)
set_option maxHeartbeats 8000000 in
set_option maxRecDepth 100000 in
theorem footwayref01_Of.calls (k : Nat) (a0 : ByteArray) (r : Int) (w : World) (h : footwayref01_Of.f k a0 = some r) :
  Calls Tq.prog 32 #[.string a0] w fun e w' => e = .returned (.int .i64 r) ∧ Drawn0 w w' := by
 have H : (footwayref01_Of.l0 k a0 0 0) = some r := h
 clear h
 have H' := Aside0.mk H
 clear H
 go_enter Tq.func32, Try.ntmps32
 go_wp2
 go_loopg [3, 4] k (fun kq v3 v4 w' => ∃ (x3_1 : Int) (x4_1 : Int), v3 = .int .i64 x3_1 ∧ v4 = .int .i64 x4_1 ∧ Aside0 (footwayref01_Of.l0 kq a0 x3_1 x4_1 = some r) ∧ Aside0 (kq ≤ k) ∧ Drawn0 w w')
 case atStart => exact ⟨(0), (0), (by first | rfl | (simp; done) | (simp [*]; done)), (by first | rfl | (simp; done) | (simp [*]; done)), H', ⟨Nat.le_refl _⟩, by repeat (first | exact Drawn0.refl _ | apply Drawn0.step)⟩
 case round =>
  clear H'
  obtain ⟨x3_1, x4_1, rfl, rfl, HA, HK1, ⟨m1, rfl⟩⟩ := hrel
  cases gk with
  | zero => exact absurd HA.out (by simp [footwayref01_Of.l0])
  | succ k1 =>
   have H := HA.out
   clear HA
   simp only [footwayref01_Of.l0] at H
   by_cases c2 : x4_1 < (a0.size : Int)
   ·rw [if_pos c2] at H
    have c2b0 : decide (x4_1 < (a0.size : Int)) = true := decide_eq_true c2
    clear c2
    by_cases c3 : 0 ≤ x4_1
    ·rw [if_pos c3] at H
     have c3b0 : decide (0 ≤ x4_1) = true := decide_eq_true c3
     clear c3
     have H' := Aside0.mk H
     clear H
     have p4 : 0 ≤ (x4_1 : Int) := of_decide_eq_true (by first | (with_reducible assumption) | assumption)
     have q4 : x4_1 < (a0.size : Int) := of_decide_eq_true (by first | (with_reducible assumption) | assumption)
     have hx4 := bt_at a0 x4_1
     replace p4 := eq_true p4
     replace q4 := eq_true q4
     go_wp2
     go_roundg k1
     case measure => have := HK1.out; omega
     case rel => exact ⟨(wrap64 ((wrap64 (256 * x3_1)) + (wrap64 (bt a0 x4_1)))), (wrap64 (x4_1 + 1)), (by first | rfl | (simp; done) | (simp [*]; done)), (by first | rfl | (simp; done) | (simp [*]; done)), H', ⟨by have := HK1.out; omega⟩, by repeat (first | exact Drawn0.refl _ | apply Drawn0.step)⟩
    ·rw [if_neg c3] at H
     exact absurd H (by simp)
   ·rw [if_neg c2] at H
    have c2b0 : decide (x4_1 < (a0.size : Int)) = false := decide_eq_false c2
    clear c2
    obtain rfl := Option.some.inj H
    go_wp2
    go_ret
    exact ⟨by first | rfl | (simp; done) | (simp [*]; done), by repeat (first | exact Drawn0.refl _ | apply Drawn0.step)⟩
def footwayref02_Right.f (a0_0 : Int) (a0_1 : Int) (a0_2 : Int) (a0_3 : ByteArray) : Option (Bool) := (footwayref01_Right.f a0_0).bind fun t116 => (if t116 = true then ((footwayref01_Right.f a0_1).bind fun t117 => (if t117 = true then ((footwayref01_Class.f a0_1).bind fun t118 => (if t118 = 0 then (if a0_2 ≥ 0 then (if a0_2 < 65536 then (some (decide ((a0_3.size : Int) ≤ 100))) else (some false)) else (some false)) else (some false))) else (some false))) else (some false))
set_option maxHeartbeats 8000000 in
set_option maxRecDepth 100000 in
theorem footwayref02_Right.calls (a0_0 : Int) (a0_1 : Int) (a0_2 : Int) (a0_3 : ByteArray) (r : Bool) (w : World) (h : footwayref02_Right.f a0_0 a0_1 a0_2 a0_3 = some r) :
  Calls Tq.prog 25 #[.agg #[.int .i64 a0_0, .int .i64 a0_1, .int .i64 a0_2, .string a0_3]] w fun e w' => e = .returned (.bool r) ∧ Below w.heap.size w w' := by
 have hu23 := Tq.underlying23
 have HB := Aside0.mk (Below.refl w.heap.size w)
 have H := h
 unfold footwayref02_Right.f at H
 clear h
 replace H := Option.bind_eq_some_iff.mp H
 obtain ⟨t116, A20, H⟩ := H
 try dsimp only at H
 have A2 := Aside0.mk A20
 clear A20
 by_cases c3 : t116 = true
 case' neg =>
  replace c3 := Bool.eq_false_iff.mpr c3
  subst c3
  rw [if_neg (show ¬ (false = true) by decide)] at H
  obtain rfl := Option.some.inj H
 case' pos =>
  subst c3
  rw [if_pos rfl] at H
  replace H := Option.bind_eq_some_iff.mp H
  obtain ⟨t117, A40, H⟩ := H
  try dsimp only at H
  have A4 := Aside0.mk A40
  clear A40
  by_cases c5 : t117 = true
  case' neg =>
   replace c5 := Bool.eq_false_iff.mpr c5
   subst c5
   rw [if_neg (show ¬ (false = true) by decide)] at H
   obtain rfl := Option.some.inj H
  case' pos =>
   subst c5
   rw [if_pos rfl] at H
   replace H := Option.bind_eq_some_iff.mp H
   obtain ⟨t118, A60, H⟩ := H
   try dsimp only at H
   have A6 := Aside0.mk A60
   clear A60
   by_cases c7 : t118 = 0
   case' neg =>
    rw [if_neg c7] at H
    have c7b0 : (t118 == 0) = false := beq_eq_false_iff_ne.mpr c7
    have c7b1 : (t118 != 0) = true := bne_iff_ne.mpr c7
    obtain rfl := Option.some.inj H
   case' pos =>
    rw [if_pos c7] at H
    have c7b0 : (t118 == 0) = true := beq_iff_eq.mpr c7
    have c7b1 : (t118 != 0) = false := bne_eq_false_iff_eq.mpr c7
    clear c7
    by_cases c8 : a0_2 ≥ 0
    case' neg =>
     rw [if_neg c8] at H
     have c8b0 : decide (0 ≤ a0_2) = false := decide_eq_false c8
     clear c8
     obtain rfl := Option.some.inj H
    case' pos =>
     rw [if_pos c8] at H
     have c8b0 : decide (0 ≤ a0_2) = true := decide_eq_true c8
     clear c8
     by_cases c9 : a0_2 < 65536
     case' neg =>
      rw [if_neg c9] at H
      have c9b0 : decide (a0_2 < 65536) = false := decide_eq_false c9
      clear c9
      obtain rfl := Option.some.inj H
     case' pos =>
      rw [if_pos c9] at H
      have c9b0 : decide (a0_2 < 65536) = true := decide_eq_true c9
      clear c9
      obtain rfl := Option.some.inj H
 all_goals
  go_enter Tq.func25, Try.ntmps25
  go_wp2_with (first | ((with_reducible refine gate_dst (N := 1) rfl ?_); (try (refine gate_guard (by rfl) ?_; dsimp only)); refine box_event ?hg (N := 1) ?hd (cs := #[.int .i64 a0_0, .int .i64 a0_1, .int .i64 a0_2, .string a0_3]) (t := 23) ?hr ?_; (case hd => rfl); (case hg => rfl); (case hr => first | (go_simp; done) | (go_simp; rfl)); intro gb115 hg w10 hbox hb; have BK115 := Aside0.mk (hbox); have GW115 := Aside0.mk ((by rw [hg]; exact (below_size (by exact bw HB.out)) : w.heap.size ≤ gb115)); have GE115 := Aside0.mk ((by rw [hg]; exact (below_size (by exact bw HB.out)) : w.heap.size ≤ gb115)); replace HB := Aside0.mk (below_step (by exact bw HB.out) hb); clear hb hbox hg; obtain ⟨hcz11_0, hcz11_1, hcz11_2, hcz11_3, hfz11_0, hfz11_1, hfz11_2, hfz11_3⟩ := cs4 BK115.out) | ((with_reducible refine gate_callee (f := 36) rfl ?_); refine goesL_ (some 5) rfl rfl Tq.func36 (by kernel_rfl) rfl #[.int .i64 a0_0] rfl (by (try simp only [List.map_toArray, List.map_cons, List.map_nil]); first | done | rfl | (simp only [List.length_drop, List.length_take]; rfl)) ?_; (with_reducible refine (footwayref01_Right.calls a0_0 _ _ A2.out).mono ?_); rintro e w' ⟨rfl, ⟨nd, rfl⟩⟩; refine ⟨_, rfl, ?_⟩) | (go_at_call 36; (with_reducible refine (footwayref01_Right.calls a0_1 _ _ A4.out).mono ?_); rintro e w' ⟨rfl, ⟨nd, rfl⟩⟩) | (go_at_call 26; (with_reducible refine (footwayref01_Class.calls a0_1 t118 _ A6.out).mono ?_); rintro e w' ⟨rfl, ⟨nd, rfl⟩⟩))
  go_ret
  exact ⟨by first | rfl | (simp [errW_none, errW_some] <;> rfl) | (simp [*, errW_none, errW_some] <;> rfl), by exact bw HB.out⟩
end Go.Proofs.Ytnikfjfcbpeieaa.PBa
end
section
namespace Go.Proofs.Ytnikfjfcbpeieaa.EMac
open Go.RowKit Go.Proofs.YtnikfjfcbpeieaaW.PrintWords Go.Proofs.YtnikfjfcbpeieaaW.PrintLast Go.Proofs.YtnikfjfcbpeieaaW.PrintMore
set_option linter.unusedVariables false
set_option linter.unusedSimpArgs false
def b6 (a : Int) : List Int := [a / 1099511627776, a / 4294967296 % 256, a / 16777216 % 256, a / 65536 % 256, a / 256 % 256, a % 256]
theorem six_C (W : World) (x0 x1 x2 x3 x4 x5 : Int) (t : TypeId) :
  Kd.C (Kd.int .u8) (W.alloc (.cells #[.int .u8 x0, .int .u8 x1, .int .u8 x2, .int .u8 x3, .int .u8 x4, .int .u8 x5] t)) (some ⟨W.heap.size, 0, none⟩) 6 [x0, x1, x2, x3, x4, x5] := by
 refine ⟨rfl, by decide, fun _ => ⟨_, rfl, fun j p hj => ⟨[.int .u8 p], rfl, rfl, fun i u hu => ?_⟩⟩⟩
 have hi : i = 0 := by
  rcases i with _ | i
  ·rfl
  ·simp at hu
 subst hi
 have hu' : u = .int .u8 p := by simpa using hu.symm
 subst hu'
 have hj' : j < 6 := (List.getElem?_eq_some_iff.1 hj).1
 have key : ∀ n, (W.alloc (.cells #[.int .u8 x0, .int .u8 x1, .int .u8 x2, .int .u8 x3, .int .u8 x4, .int .u8 x5] t)).cell? ⟨W.heap.size, n, none⟩ = (#[.int .u8 x0, .int .u8 x1, .int .u8 x2, .int .u8 x3, .int .u8 x4, .int .u8 x5] : Array Value)[n]? := fun n => World.cell?_alloc_new W _ t n
 rcases j with _ | _ | _ | _ | _ | _ | j
 ·obtain rfl : x0 = p := by simpa using hj
  exact key 0
 ·obtain rfl : x1 = p := by simpa using hj
  exact key 1
 ·obtain rfl : x2 = p := by simpa using hj
  exact key 2
 ·obtain rfl : x3 = p := by simpa using hj
  exact key 3
 ·obtain rfl : x4 = p := by simpa using hj
  exact key 4
 ·obtain rfl : x5 = p := by simpa using hj
  exact key 5
 ·omega
theorem six_string (W : World) (x0 x1 x2 x3 x4 x5 : Int) :
  (convert 35 9 (.slice (some ⟨W.heap.size, 0, none⟩) 6 6)).run Tq.prog (W.alloc (.cells #[.int .u8 x0, .int .u8 x1, .int .u8 x2, .int .u8 x3, .int .u8 x4, .int .u8 x5] 91)) =
   .ok (.string (strOfNums [x0, x1, x2, x3, x4, x5])) (W.alloc (.cells #[.int .u8 x0, .int .u8 x1, .int .u8 x2, .int .u8 x3, .int .u8 x4, .int .u8 x5] 91)) :=
 Kd.C_string Tq.underlying35 Tq.underlying5 Tq.underlying9 (six_C W x0 x1 x2 x3 x4 x5 91)
set_option maxRecDepth 100000 in
set_option maxHeartbeats 2000000 in
theorem bytes_yes (a : Int) (w : World) (h0 : 0 ≤ a) (h1 : a ≤ 281474976710655) :
  Calls Tq.prog 33 #[.int .i64 a] w fun e w' => e = .returned (.tuple #[.string (strOfNums (b6 a)), .int .i64 0]) ∧ Below w.heap.size w w' := by
 have d0 : decide (0 ≤ a) = true := decide_eq_true h0
 have d1 : decide (a ≤ 281474976710655) = true := decide_eq_true h1
 have hcv := six_string w (a / 1099511627776) (a / 4294967296 % 256) (a / 16777216 % 256) (a / 65536 % 256) (a / 256 % 256) (a % 256)
 go_enter Tq.func33, Try.ntmps33
 go_wp2
 refine wp_loop_rounds 7 ?_
 rw [rounds_succ]
 go_wp2
 rw [rounds_succ]
 go_wp2
 rw [rounds_succ]
 go_wp2
 rw [rounds_succ]
 go_wp2
 rw [rounds_succ]
 go_wp2
 rw [rounds_succ]
 go_wp2
 rw [rounds_succ]
 go_wp2
 go_ret2
 exact ⟨rfl, (Below.refl _ _).alloc (Nat.le_refl _) _⟩
theorem bytes_no (a : Int) (w : World) (h : ¬ (0 ≤ a ∧ a ≤ 281474976710655)) :
  Calls Tq.prog 33 #[.int .i64 a] w fun e w' => e = .returned (.tuple #[.string ⟨#[]⟩, .int .i64 1]) ∧ Below w.heap.size w w' := by
 by_cases h0 : 0 ≤ a
 ·have d0 : decide (0 ≤ a) = true := decide_eq_true h0
  have d1 : decide (a ≤ 281474976710655) = false := decide_eq_false (fun h1 => h ⟨h0, h1⟩)
  go_enter Tq.func33, Try.ntmps33
  go_wp2
  go_ret2
  exact ⟨rfl, Below.refl _ _⟩
 ·have d0 : decide (0 ≤ a) = false := decide_eq_false h0
  go_enter Tq.func33, Try.ntmps33
  go_wp2
  go_ret2
  exact ⟨rfl, Below.refl _ _⟩
end Go.Proofs.Ytnikfjfcbpeieaa.EMac
end
section
namespace Go.Proofs.Ytnikfjfcbpeieaa.EFrame
open Go.RowKit Go.Proofs.Ytnikfjfcbpeieaa.PBa Go.Proofs.YtnikfjfcbpeieaaW.PrintWords Go.Proofs.YtnikfjfcbpeieaaW.PrintLast Go.Proofs.YtnikfjfcbpeieaaW.PrintMore
set_option linter.unusedVariables false
set_option linter.unusedSimpArgs false
theorem cells_C (W : World) (B lo : Nat) (xs : List Int) (hl : xs.length ≤ 1000) (h : ∀ j p, xs[j]? = some p → W.cell? ⟨B, lo + j, none⟩ = some (.int .u8 p)) : Kd.C (Kd.int .u8) W (some ⟨B, lo, none⟩) xs.length xs := by
 refine ⟨rfl, by omega, fun _ => ⟨_, rfl, fun j p hj => ⟨[.int .u8 p], rfl, rfl, fun i u hu => ?_⟩⟩⟩
 have hi : i = 0 := by
  rcases i with _ | i
  ·rfl
  ·simp at hu
 subst hi
 have hu' : u = .int .u8 p := by simpa using hu.symm
 subst hu'
 have e : (⟨B, lo, none⟩ : Addr).add (j * (Kd.int .u8).sz + 0) = ⟨B, lo + j, none⟩ := by
  show Addr.add _ (j * 1 + 0) = _
  unfold Addr.add
  split
  ·have : j = 0 := by omega
   subst this; rfl
  ·simp
 rw [e]
 exact h j p hj
def nums (s : ByteArray) (lo m : Nat) : List Int := ((s.data.toList.drop lo).take m).map fun b => (b.toNat : Int)
theorem nums_len (s : ByteArray) (lo m : Nat) (h : lo + m ≤ s.size) : (nums s lo m).length = m := by
 have : s.data.toList.length = s.size := by simp
 simp only [nums, List.length_map, List.length_take, List.length_drop, this]
 omega
theorem nums_str (s : ByteArray) (lo m : Nat) : strOfNums (nums s lo m) = s.extract lo (lo + m) := by
 unfold nums
 rw [Lib.Lz.strOfNums_map]
 apply ByteArray.ext
 apply Array.toList_inj.1
 simp [ByteArray.data_extract, List.drop_take]
def Held (W : World) (B : Nat) (s : ByteArray) : Prop := ∀ j, j < s.size → W.cell? ⟨B, j, none⟩ = some (.int .u8 (bt s j))
theorem bt_data (s : ByteArray) (j : Nat) : ((s.data.toList.getD j 0).toNat : Int) = bt s j := by
 rw [← rd_bytesOf]
 unfold rd bytesOf
 simp only [Int.toNat_natCast, List.getD_eq_getElem?_getD, List.getElem?_map]
 cases s.data.toList[j]? <;> rfl
theorem sub_string (W : World) (B lo m c : Nat) (s : ByteArray) (hs : s.size ≤ 1000) (h : lo + m ≤ s.size) (H : Held W B s) :
  (convert 35 9 (.slice (some ⟨B, lo, none⟩) m c)).run Tq.prog W = .ok (.string (s.extract lo (lo + m))) W := by
 have hl := nums_len s lo m h
 have hC : Kd.C (Kd.int .u8) W (some ⟨B, lo, none⟩) m (nums s lo m) := by
  have := cells_C W B lo (nums s lo m) (by omega) ?_
  ·rw [hl] at this; exact this
  ·intro j p hj
   have hjm : j < m := by rw [← hl]; exact (List.getElem?_eq_some_iff.1 hj).1
   have h1 := H (lo + j) (by omega)
   rw [h1, ← bt_data]
   congr 2
   unfold nums at hj
   rw [List.getElem?_map, List.getElem?_take_of_lt hjm, List.getElem?_drop] at hj
   rw [List.getD_eq_getElem?_getD]
   cases he : s.data.toList[lo + j]? with
   | none => rw [he] at hj; cases hj
   | some u => rw [he] at hj; exact Option.some.inj hj
 rw [← nums_str]
 exact Kd.C_string Tq.underlying35 Tq.underlying5 Tq.underlying9 hC
theorem conv_bytes (W : World) (s : ByteArray) (hs : s.size ≤ 1000) : ∃ cp W1, (convert 9 35 (.string s)).run Tq.prog W = .ok (.slice (some ⟨W.heap.size, 0, none⟩) s.size cp) W1 ∧ s.size ≤ cp ∧
  Held W1 W.heap.size s ∧ Below W.heap.size W W1 ∧ W.heap.size < W1.heap.size := by
 refine ⟨grownCap W s.size 0 5, Lib.bytesWorld W 5 s, Lib.run_convert_string_bytes (P := Tq.prog) W 9 35 5 s Tq.underlying9 Tq.underlying35 Tq.underlying5, ?_, ?_, ?_, ?_⟩
 ·exact grownCap_ge _ _ _ _
 ·intro j hj
  rw [Lib.bytesWorld_cell W 5 s j hj, bt_data]
 ·exact ⟨rfl, rfl, rfl, by rw [Lib.bytesWorld_size]; omega, fun k hk => Lib.bytesWorld_at_old W 5 s k hk⟩
 ·rw [Lib.bytesWorld_size]; omega
def num6 (s : ByteArray) (i : Int) : Int := bt s i * 1099511627776 + bt s (i + 1) * 4294967296 + bt s (i + 2) * 16777216 + bt s (i + 3) * 65536 + bt s (i + 4) * 256 + bt s (i + 5)
theorem or_byte (a b : Int) (h0 : 0 ≤ a) (h1 : a < 36028797018963968) (h2 : 0 ≤ b) (h3 : b ≤ 255) : Go.bits .or .i64 (wrap64 (a * 256)) (wrap64 b) = a * 256 + b := by
 have e1 : wrap64 (a * 256) = a * 256 := by unfold wrap64; omega
 have e2 : wrap64 b = b := by unfold wrap64; omega
 rw [e1, e2]
 exact bits_join .i64 63 (by decide) (fun n h₀ h₁ => by rw [IntKind.wrap_i64]; omega) 8 (a * 256) b (by omega) (by omega) (by omega) h2 (by omega) (by omega)
theorem Of_step (k : Nat) (s : ByteArray) (a i j : Int) (hj : j = i + 1) (h0 : 0 ≤ a) (h1 : a < 36028797018963968) (h2 : 0 ≤ i) (h3 : i < 6) (h4 : s.size = 6) : mac_Of.l0 (k + 1) s a i = mac_Of.l0 k s (a * 256 + bt s i) j := by
 subst hj
 have hb := bt_range s i
 have e : wrap64 (i + 1) = i + 1 := by unfold wrap64; omega
 rw [mac_Of.l0, if_pos h3, if_pos h2, if_pos (by omega), or_byte a _ h0 h1 hb.1 hb.2, e]
theorem Of_end (k : Nat) (s : ByteArray) (a : Int) : mac_Of.l0 (k + 1) s a 6 = some (a, 0) := by
 rw [mac_Of.l0, if_neg (by decide)]
theorem Of_num (k : Nat) (s : ByteArray) (h : s.size = 6) : mac_Of.f (k + 7) s = some (num6 s 0, 0) := by
 have b0 := bt_range s 0
 have b1 := bt_range s 1
 have b2 := bt_range s 2
 have b3 := bt_range s 3
 have b4 := bt_range s 4
 have b5 := bt_range s 5
 unfold mac_Of.f
 rw [if_neg (by omega), if_neg (by omega)]
 rw [Of_step (k + 6) s _ _ 1 rfl (by omega) (by omega) (by omega) (by omega) h]
 rw [Of_step (k + 5) s _ _ 2 rfl (by omega) (by omega) (by omega) (by omega) h]
 rw [Of_step (k + 4) s _ _ 3 rfl (by omega) (by omega) (by omega) (by omega) h]
 rw [Of_step (k + 3) s _ _ 4 rfl (by omega) (by omega) (by omega) (by omega) h]
 rw [Of_step (k + 2) s _ _ 5 rfl (by omega) (by omega) (by omega) (by omega) h]
 rw [Of_step (k + 1) s _ _ 6 rfl (by omega) (by omega) (by omega) (by omega) h]
 rw [Of_end]
 unfold num6
 congr 2
 simp only [Int.zero_add, show (1 : Int) + 1 = 2 from rfl, show (2 : Int) + 1 = 3 from rfl, show (3 : Int) + 1 = 4 from rfl, show (4 : Int) + 1 = 5 from rfl]
 omega
def tnum (s : ByteArray) : Int := bt s 12 * 256 + bt s 13
theorem bt_extract (s : ByteArray) (lo m i : Nat) (h : lo + m ≤ s.size) (hi : i < m) : bt (s.extract lo (lo + m)) i = bt s (lo + i : Nat) := by
 rw [← bt_data, ← bt_data]
 congr 2
 simp only [List.getD_eq_getElem?_getD, ByteArray.data_extract, Array.toList_extract]
 congr 1
 rw [show s.data.toList.extract lo (lo + m) = (s.data.toList.drop lo).take m from by simp [List.extract_eq_take_drop]]
 rw [List.getElem?_take_of_lt hi, List.getElem?_drop]
theorem Of_sub (s : ByteArray) (lo : Nat) (h : lo + 6 ≤ s.size) : mac_Of.f 7 (s.extract lo (lo + 6)) = some (num6 s lo, 0) := by
 have hz : (s.extract lo (lo + 6)).size = 6 := by
  rw [ByteArray.size_extract]; omega
 rw [Of_num 0 _ hz]
 have e : ∀ i : Nat, i < 6 → bt (s.extract lo (lo + 6)) (i : Int) = bt s ((lo : Int) + i) := fun i hi => by
  rw [bt_extract s lo 6 i h hi]; congr 1
 have e0 : bt (s.extract lo (lo + 6)) 0 = bt s lo := by have := e 0 (by omega); simpa using this
 have e1 : bt (s.extract lo (lo + 6)) 1 = bt s (lo + 1) := e 1 (by omega)
 have e2 : bt (s.extract lo (lo + 6)) 2 = bt s (lo + 2) := e 2 (by omega)
 have e3 : bt (s.extract lo (lo + 6)) 3 = bt s (lo + 3) := e 3 (by omega)
 have e4 : bt (s.extract lo (lo + 6)) 4 = bt s (lo + 4) := e 4 (by omega)
 have e5 : bt (s.extract lo (lo + 6)) 5 = bt s (lo + 5) := e 5 (by omega)
 have g : num6 (s.extract lo (lo + 6)) 0 = num6 s lo := by
  unfold num6
  simp only [Int.zero_add]
  rw [e0, e1, e2, e3, e4, e5]
 rw [g]
set_option maxRecDepth 100000 in
set_option maxHeartbeats 2000000 in
theorem parse_mid (s : ByteArray) (r : Bool) (hr : frame_Right.f (num6 s 0) (num6 s 6) (tnum s) (s.extract 14 s.size) = some r) (w : World) (h0 : 14 ≤ s.size) (h1 : s.size ≤ 114) :
  Calls Tq.prog 20 #[.string s] w fun e w' => e = .returned (if r = true then .tuple #[.agg #[.int .i64 (num6 s 0), .int .i64 (num6 s 6), .int .i64 (tnum s), .string (s.extract 14 s.size)], .int .i64 0] else .tuple #[.agg #[.int .i64 0, .int .i64 0, .int .i64 0, .string ⟨#[]⟩], .int .i64 10]) ∧ Below w.heap.size w w' := by
 have d0 : decide ((s.size : Int) < 14) = false := decide_eq_false (by omega)
 have d1 : decide (114 < (s.size : Int)) = false := decide_eq_false (by omega)
 have d2 : decide (s.size < 14) = false := decide_eq_false (by omega)
 have d3 : decide (114 < s.size) = false := decide_eq_false (by omega)
 obtain ⟨cp, W1, hcv, hcp, HC0, HB0, HZ⟩ := conv_bytes (w.alloc (.cells #[.int .i64 0, .int .i64 0, .int .i64 0, .string ⟨#[]⟩] 23)) s (by omega)
 rw [World.size_alloc] at hcv HC0
 have C := HC0
 have S1 := sub_string W1 (w.heap.size + 1) 0 6 6 s (by omega) (by omega) C
 have HB := Lib.hid HB0
 clear HC0 HB0
 go_enter Tq.func20, Try.ntmps20
 go_wp2_with fail
 refine (mac_Of.calls 7 _ _ 0 _ (Of_sub s 0 (by omega))).mono ?_
 rintro e w' ⟨rfl, ⟨nd, rfl⟩⟩
 have S2 := sub_string (W1.drewN nd) (w.heap.size + 1) 6 6 6 s (by omega) (by omega) C
 go_wp2_with fail
 refine (mac_Of.calls 7 _ _ 0 _ (Of_sub s 6 (by omega))).mono ?_
 rintro e w' ⟨rfl, ⟨nd2, rfl⟩⟩
 have h12 : W1.cell? ⟨w.heap.size + 1, 12, none⟩ = some (.int .u8 (bt s 12)) := C 12 (by omega)
 have h13 : W1.cell? ⟨w.heap.size + 1, 13, none⟩ = some (.int .u8 (bt s 13)) := C 13 (by omega)
 have hlt : w.heap.size + 1 < W1.heap.size := by rw [World.size_alloc] at HZ; exact HZ
 have S3 : ∀ D, (convert 35 9 (.slice (some ⟨w.heap.size + 1, 14, none⟩) (s.size - 14) (cp - 14))).run Tq.prog (W1.drewN D) = .ok (.string (s.extract 14 (14 + (s.size - 14)))) (W1.drewN D) := fun D => sub_string _ _ 14 _ _ s (by omega) (by omega) C
 have S4 : ∀ D o, (convert 35 9 (.slice (some ⟨w.heap.size + 1, 14, none⟩) (s.size - 14) (cp - 14))).run Tq.prog ((W1.drewN D).alloc o) = .ok (.string (s.extract 14 (14 + (s.size - 14)))) ((W1.drewN D).alloc o) := fun D o => sub_string _ _ 14 _ _ s (by omega) (by omega) (fun j hj => (World.cell?_alloc_past _ _ _ hlt).trans (C j hj))
 have l14 : (14 : Int) ≤ (s.size : Int) := by omega
 have l12 : (12 : Int) < (s.size : Int) := by omega
 have l13 : (13 : Int) < (s.size : Int) := by omega
 go_wp2_with fail
 have hB1 : ∀ D c t i, ((W1.drewN D).alloc (.cells c t)).cell? ⟨W1.heap.size, i, none⟩ = c[i]? := fun D c t i => World.cell?_alloc_at c t _ i rfl
 have hB2 : ∀ D c t i, ((W1.drewN D).alloc (.cells c t)).frozen? ⟨W1.heap.size, i, none⟩ = false := fun D c t i => World.frozen?_alloc_at c t _ i rfl
 have hB3 : ∀ D o i, ((W1.drewN D).alloc o).cell? ⟨w.heap.size + 1, i, none⟩ = W1.cell? ⟨w.heap.size + 1, i, none⟩ := fun D o i => World.cell?_alloc_past (w := W1.drewN D) o _ i hlt
 have hB4 : ∀ D c t i v, ((W1.drewN D).alloc (.cells c t)).setCell ⟨W1.heap.size, i, none⟩ v = (W1.drewN D).alloc (.cells (c.setIfInBounds i v) t) := fun D c t i v => World.setCell_alloc_at c t _ i v rfl
 have ew : bits .or .i64 (wrap64 (wrap64 (bt s 12) * 256)) (wrap64 (bt s 13)) = tnum s := by
  have b0 := bt_range s 12
  have b1 := bt_range s 13
  have e2 : wrap64 (bt s 12) = bt s 12 := by unfold wrap64; omega
  rw [e2, or_byte _ _ (by omega) (by omega) b1.1 b1.2]; rfl
 have hX0 : ∀ D c, ((W1.drewN D).alloc (.cells c 23)).heap.size = W1.heap.size + 1 := fun D c => by rw [World.size_alloc]; rfl
 have hZ : ∀ D c j, ((W1.drewN D).alloc (.cells c 23)).cell? ⟨w.heap.size, j, none⟩ = W1.cell? ⟨w.heap.size, j, none⟩ := fun D c j => World.cell?_alloc_past (w := W1.drewN D) _ _ j (by show _ < W1.heap.size; omega)
 have hZf : ∀ D c j, ((W1.drewN D).alloc (.cells c 23)).frozen? ⟨w.heap.size, j, none⟩ = W1.frozen? ⟨w.heap.size, j, none⟩ := fun D c j => World.frozen?_alloc_past (w := W1.drewN D) _ _ j (by show _ < W1.heap.size; omega)
 have hl0 : w.heap.size < (w.alloc (.cells #[.int .i64 0, .int .i64 0, .int .i64 0, .string ⟨#[]⟩] 23)).heap.size := by rw [World.size_alloc]; omega
 have hlt' : w.heap.size < W1.heap.size + 1 := by omega
 by_cases hc14 : cp = 14
 ·have hx : s.extract 0 0 = s.extract 14 s.size := by
   have h' : s.size = 14 := by omega
   apply ByteArray.ext
   apply Array.toList_inj.1
   simp [ByteArray.data_extract, h']
  have S3 : ∀ D, (convert 35 9 (.slice (some ⟨w.heap.size + 1, 0, none⟩) 0 0)).run Tq.prog (W1.drewN D) = .ok (.string (s.extract 14 s.size)) (W1.drewN D) := fun D => by
   rw [← hx]; exact sub_string (W1.drewN D) (w.heap.size + 1) 0 0 0 s (by omega) (by omega) C
  have S4 : ∀ D o, (convert 35 9 (.slice (some ⟨w.heap.size + 1, 0, none⟩) 0 0)).run Tq.prog ((W1.drewN D).alloc o) = .ok (.string (s.extract 14 s.size)) ((W1.drewN D).alloc o) := fun D o => by
   rw [← hx]; exact sub_string ((W1.drewN D).alloc o) (w.heap.size + 1) 0 0 0 s (by omega) (by omega) (fun j hj => (World.cell?_alloc_past _ _ _ hlt).trans (C j hj))
  subst hc14
  go_region
  all_goals go_wp2_with fail
  refine (frame_Right.calls _ _ _ _ r _ hr).mono ?_
  rintro e w' ⟨rfl, hb⟩
  have q0 : w'.cell? ⟨W1.heap.size, 0, none⟩ = some (.int .i64 (num6 s 0)) := (hb.cell (by rw [hX0]; exact Nat.lt_succ_self _)).trans (hB1 _ _ _ 0)
  have q1 : w'.cell? ⟨W1.heap.size, 1, none⟩ = some (.int .i64 (num6 s 6)) := (hb.cell (by rw [hX0]; exact Nat.lt_succ_self _)).trans (hB1 _ _ _ 1)
  have q2 : w'.cell? ⟨W1.heap.size, 2, none⟩ = some (.int .i64 (tnum s)) := (hb.cell (by rw [hX0]; exact Nat.lt_succ_self _)).trans (hB1 _ _ _ 2)
  have q3 : w'.cell? ⟨W1.heap.size, 3, none⟩ = some (.string (s.extract 14 s.size)) := (hb.cell (by rw [hX0]; exact Nat.lt_succ_self _)).trans (hB1 _ _ _ 3)
  have z0 := (hb.cell (p := ⟨w.heap.size, 0, none⟩) (by rw [hX0]; exact hlt')).trans ((hZ _ _ 0).trans (HB.out.cell (p := ⟨w.heap.size, 0, none⟩) hl0))
  have z1 := (hb.cell (p := ⟨w.heap.size, 1, none⟩) (by rw [hX0]; exact hlt')).trans ((hZ _ _ 1).trans (HB.out.cell (p := ⟨w.heap.size, 1, none⟩) hl0))
  have z2 := (hb.cell (p := ⟨w.heap.size, 2, none⟩) (by rw [hX0]; exact hlt')).trans ((hZ _ _ 2).trans (HB.out.cell (p := ⟨w.heap.size, 2, none⟩) hl0))
  have z3 := (hb.cell (p := ⟨w.heap.size, 3, none⟩) (by rw [hX0]; exact hlt')).trans ((hZ _ _ 3).trans (HB.out.cell (p := ⟨w.heap.size, 3, none⟩) hl0))
  have f0 := (hb.frozen (p := ⟨w.heap.size, 0, none⟩) (by rw [hX0]; exact hlt')).trans ((hZf _ _ 0).trans (HB.out.frozen (p := ⟨w.heap.size, 0, none⟩) hl0))
  have f1 := (hb.frozen (p := ⟨w.heap.size, 1, none⟩) (by rw [hX0]; exact hlt')).trans ((hZf _ _ 1).trans (HB.out.frozen (p := ⟨w.heap.size, 1, none⟩) hl0))
  have f2 := (hb.frozen (p := ⟨w.heap.size, 2, none⟩) (by rw [hX0]; exact hlt')).trans ((hZf _ _ 2).trans (HB.out.frozen (p := ⟨w.heap.size, 2, none⟩) hl0))
  have f3 := (hb.frozen (p := ⟨w.heap.size, 3, none⟩) (by rw [hX0]; exact hlt')).trans ((hZf _ _ 3).trans (HB.out.frozen (p := ⟨w.heap.size, 3, none⟩) hl0))
  rw [World.cell?_alloc_at _ _ _ _ rfl] at z0 z1 z2 z3
  rw [World.frozen?_alloc_at _ _ _ _ rfl] at f0 f1 f2 f3
  simp only [List.getElem?_toArray, List.getElem?_cons_zero, List.getElem?_cons_succ] at z0 z1 z2 z3
  have BK : w'.heap[w.heap.size]? = some (.cells #[.int .i64 0, .int .i64 0, .int .i64 0, .string ⟨#[]⟩] 23) := blk_below (blk_alloc (blk_drewN (blk_below (blk_new w _) HB.out) _) _) hb
  have HF : Below w.heap.size w w' := below_step (below_alloc (pw_below_drewN (below_step ((Below.refl w.heap.size w).alloc (Nat.le_refl _) _) HB.out) _) _) hb
  clear hb hB1 hB2 hB3 hB4 hX0 hZ hZf S3 S4 HB hcv
  cases r
  ·go_wp2_with fail
   refine bodyPost_ret (results_ct rfl _ _ w.heap.size 23 #[.int .i64 0, .int .i64 0, .int .i64 0, .string (⟨#[]⟩ : ByteArray)] (0, 0) _ rfl (by exact blk_set (blk_set (blk_set (blk_set BK 0 _) 1 _) 2 _) 3 _) Tq.underlying23 rfl (by kernel_rfl)) rfl ?_
   exact ⟨rfl, by repeat (first | (with_reducible first | exact HF | apply below_alloc | apply pw_below_drewN | apply below_drew1 | refine below_set ?_ (Nat.le_refl _)) | exact HF)⟩
  ·go_wp2_with fail
   refine bodyPost_ret (results_ct rfl _ _ w.heap.size 23 #[.int .i64 (num6 s 0), .int .i64 (num6 s 6), .int .i64 (tnum s), .string (s.extract 14 s.size)] (0, 0) _ rfl (by exact blk_set (blk_set (blk_set (blk_set BK 0 _) 1 _) 2 _) 3 _) Tq.underlying23 rfl (by kernel_rfl)) rfl ?_
   exact ⟨rfl, by repeat (first | (with_reducible first | exact HF | apply below_alloc | apply pw_below_drewN | apply below_drew1 | refine below_set ?_ (Nat.le_refl _)) | exact HF)⟩
 ·go_region
  all_goals go_wp2_with fail
  refine (frame_Right.calls _ _ _ _ r _ hr).mono ?_
  rintro e w' ⟨rfl, hb⟩
  have q0 : w'.cell? ⟨W1.heap.size, 0, none⟩ = some (.int .i64 (num6 s 0)) := (hb.cell (by rw [hX0]; exact Nat.lt_succ_self _)).trans (hB1 _ _ _ 0)
  have q1 : w'.cell? ⟨W1.heap.size, 1, none⟩ = some (.int .i64 (num6 s 6)) := (hb.cell (by rw [hX0]; exact Nat.lt_succ_self _)).trans (hB1 _ _ _ 1)
  have q2 : w'.cell? ⟨W1.heap.size, 2, none⟩ = some (.int .i64 (tnum s)) := (hb.cell (by rw [hX0]; exact Nat.lt_succ_self _)).trans (hB1 _ _ _ 2)
  have q3 : w'.cell? ⟨W1.heap.size, 3, none⟩ = some (.string (s.extract 14 s.size)) := (hb.cell (by rw [hX0]; exact Nat.lt_succ_self _)).trans (hB1 _ _ _ 3)
  have z0 := (hb.cell (p := ⟨w.heap.size, 0, none⟩) (by rw [hX0]; exact hlt')).trans ((hZ _ _ 0).trans (HB.out.cell (p := ⟨w.heap.size, 0, none⟩) hl0))
  have z1 := (hb.cell (p := ⟨w.heap.size, 1, none⟩) (by rw [hX0]; exact hlt')).trans ((hZ _ _ 1).trans (HB.out.cell (p := ⟨w.heap.size, 1, none⟩) hl0))
  have z2 := (hb.cell (p := ⟨w.heap.size, 2, none⟩) (by rw [hX0]; exact hlt')).trans ((hZ _ _ 2).trans (HB.out.cell (p := ⟨w.heap.size, 2, none⟩) hl0))
  have z3 := (hb.cell (p := ⟨w.heap.size, 3, none⟩) (by rw [hX0]; exact hlt')).trans ((hZ _ _ 3).trans (HB.out.cell (p := ⟨w.heap.size, 3, none⟩) hl0))
  have f0 := (hb.frozen (p := ⟨w.heap.size, 0, none⟩) (by rw [hX0]; exact hlt')).trans ((hZf _ _ 0).trans (HB.out.frozen (p := ⟨w.heap.size, 0, none⟩) hl0))
  have f1 := (hb.frozen (p := ⟨w.heap.size, 1, none⟩) (by rw [hX0]; exact hlt')).trans ((hZf _ _ 1).trans (HB.out.frozen (p := ⟨w.heap.size, 1, none⟩) hl0))
  have f2 := (hb.frozen (p := ⟨w.heap.size, 2, none⟩) (by rw [hX0]; exact hlt')).trans ((hZf _ _ 2).trans (HB.out.frozen (p := ⟨w.heap.size, 2, none⟩) hl0))
  have f3 := (hb.frozen (p := ⟨w.heap.size, 3, none⟩) (by rw [hX0]; exact hlt')).trans ((hZf _ _ 3).trans (HB.out.frozen (p := ⟨w.heap.size, 3, none⟩) hl0))
  rw [World.cell?_alloc_at _ _ _ _ rfl] at z0 z1 z2 z3
  rw [World.frozen?_alloc_at _ _ _ _ rfl] at f0 f1 f2 f3
  simp only [List.getElem?_toArray, List.getElem?_cons_zero, List.getElem?_cons_succ] at z0 z1 z2 z3
  have BK : w'.heap[w.heap.size]? = some (.cells #[.int .i64 0, .int .i64 0, .int .i64 0, .string ⟨#[]⟩] 23) := blk_below (blk_alloc (blk_drewN (blk_below (blk_new w _) HB.out) _) _) hb
  have HF : Below w.heap.size w w' := below_step (below_alloc (pw_below_drewN (below_step ((Below.refl w.heap.size w).alloc (Nat.le_refl _) _) HB.out) _) _) hb
  clear hb hB1 hB2 hB3 hB4 hX0 hZ hZf S3 S4 HB hcv
  cases r
  ·go_wp2_with fail
   refine bodyPost_ret (results_ct rfl _ _ w.heap.size 23 #[.int .i64 0, .int .i64 0, .int .i64 0, .string (⟨#[]⟩ : ByteArray)] (0, 0) _ rfl (by exact blk_set (blk_set (blk_set (blk_set BK 0 _) 1 _) 2 _) 3 _) Tq.underlying23 rfl (by kernel_rfl)) rfl ?_
   exact ⟨rfl, by repeat (first | (with_reducible first | exact HF | apply below_alloc | apply pw_below_drewN | apply below_drew1 | refine below_set ?_ (Nat.le_refl _)) | exact HF)⟩
  ·go_wp2_with fail
   refine bodyPost_ret (results_ct rfl _ _ w.heap.size 23 #[.int .i64 (num6 s 0), .int .i64 (num6 s 6), .int .i64 (tnum s), .string (s.extract 14 s.size)] (0, 0) _ rfl (by exact blk_set (blk_set (blk_set (blk_set BK 0 _) 1 _) 2 _) 3 _) Tq.underlying23 rfl (by kernel_rfl)) rfl ?_
   exact ⟨rfl, by repeat (first | (with_reducible first | exact HF | apply below_alloc | apply pw_below_drewN | apply below_drew1 | refine below_set ?_ (Nat.le_refl _)) | exact HF)⟩
theorem parse_short (s : ByteArray) (w : World) (h : s.size < 14) :
  Calls Tq.prog 20 #[.string s] w fun e w' => e = .returned (.tuple #[.agg #[.int .i64 0, .int .i64 0, .int .i64 0, .string ⟨#[]⟩], .int .i64 7]) ∧ Below w.heap.size w w' := by
 have d0 : decide ((s.size : Int) < 14) = true := decide_eq_true (by omega)
 have d2 : decide (s.size < 14) = true := decide_eq_true (by omega)
 go_enter Tq.func20, Try.ntmps20
 go_wp2
 refine bodyPost_ret (results_ct rfl _ _ w.heap.size 23 #[.int .i64 0, .int .i64 0, .int .i64 0, .string (⟨#[]⟩ : ByteArray)] (0, 0) _ rfl (by exact blk_new w _) Tq.underlying23 rfl (by kernel_rfl)) rfl ?_
 have HF := Below.refl w.heap.size w
 exact ⟨rfl, by repeat (first | (with_reducible first | exact HF | apply below_alloc | apply pw_below_drewN | apply below_drew1 | refine below_set ?_ (Nat.le_refl _)) | exact HF)⟩
theorem parse_long (s : ByteArray) (w : World) (h : 114 < s.size) :
  Calls Tq.prog 20 #[.string s] w fun e w' => e = .returned (.tuple #[.agg #[.int .i64 0, .int .i64 0, .int .i64 0, .string ⟨#[]⟩], .int .i64 8]) ∧ Below w.heap.size w w' := by
 have d0 : decide ((s.size : Int) < 14) = false := decide_eq_false (by omega)
 have d1 : decide (114 < (s.size : Int)) = true := decide_eq_true (by omega)
 have d2 : decide (s.size < 14) = false := decide_eq_false (by omega)
 have d3 : decide (114 < s.size) = true := decide_eq_true (by omega)
 go_enter Tq.func20, Try.ntmps20
 go_wp2
 refine bodyPost_ret (results_ct rfl _ _ w.heap.size 23 #[.int .i64 0, .int .i64 0, .int .i64 0, .string (⟨#[]⟩ : ByteArray)] (0, 0) _ rfl (by exact blk_new w _) Tq.underlying23 rfl (by kernel_rfl)) rfl ?_
 have HF := Below.refl w.heap.size w
 exact ⟨rfl, by repeat (first | (with_reducible first | exact HF | apply below_alloc | apply pw_below_drewN | apply below_drew1 | refine below_set ?_ (Nat.le_refl _)) | exact HF)⟩
def frame_Parse.f (a0 : ByteArray) : Option (Int × Int × Int × ByteArray × Int) :=
 if a0.size < 14 then some (0, 0, 0, (⟨#[]⟩ : ByteArray), 7) else (if 114 < a0.size then some (0, 0, 0, (⟨#[]⟩ : ByteArray), 8) else
  ((frame_Right.f (num6 a0 0) (num6 a0 6) (tnum a0) (a0.extract 14 a0.size)).bind fun r => if r = true then some (num6 a0 0, num6 a0 6, tnum a0, a0.extract 14 a0.size, 0) else some (0, 0, 0, (⟨#[]⟩ : ByteArray), 10)))
theorem frame_Parse.calls (a0 : ByteArray) (r1 r2 r3 : Int) (r4 : ByteArray) (r5 : Int) (w : World) (h : frame_Parse.f a0 = some (r1, r2, r3, r4, r5)) :
  Calls Tq.prog 20 #[.string a0] w fun e w' => e = .returned (.tuple #[.agg #[.int .i64 r1, .int .i64 r2, .int .i64 r3, .string r4], .int .i64 r5]) ∧ Below w.heap.size w w' := by
 unfold frame_Parse.f at h
 split at h
 ·rename_i hc
  simp only [Option.some.injEq, Prod.mk.injEq] at h
  obtain ⟨rfl, rfl, rfl, rfl, rfl⟩ := h
  exact parse_short a0 w hc
 ·split at h
  ·rename_i hc
   simp only [Option.some.injEq, Prod.mk.injEq] at h
   obtain ⟨rfl, rfl, rfl, rfl, rfl⟩ := h
   exact parse_long a0 w hc
  ·rename_i h1 h2
   obtain ⟨r, hr, h⟩ := Option.bind_eq_some_iff.mp h
   have := parse_mid a0 r hr w (by omega) (by omega)
   cases r <;> simp only [if_true, Bool.false_eq_true, if_false, Option.some.injEq, Prod.mk.injEq] at h <;> obtain ⟨rfl, rfl, rfl, rfl, rfl⟩ := h <;> exact this
def mac_Bytes.f (a0 : Int) : Option (ByteArray × Int) := if 0 ≤ a0 ∧ a0 ≤ 281474976710655 then some (strOfNums (EMac.b6 a0), 0) else some ((⟨#[]⟩ : ByteArray), 1)
theorem mac_Bytes.calls (a0 : Int) (r1 : ByteArray) (r2 : Int) (w : World) (h : mac_Bytes.f a0 = some (r1, r2)) :
  Calls Tq.prog 33 #[.int .i64 a0] w fun e w' => e = .returned (.tuple #[.string r1, .int .i64 r2]) ∧ Below w.heap.size w w' := by
 unfold mac_Bytes.f at h
 split at h
 ·rename_i hc
  simp only [Option.some.injEq, Prod.mk.injEq] at h
  obtain ⟨rfl, rfl⟩ := h
  exact EMac.bytes_yes a0 w hc.1 hc.2
 ·rename_i hc
  simp only [Option.some.injEq, Prod.mk.injEq] at h
  obtain ⟨rfl, rfl⟩ := h
  exact EMac.bytes_no a0 w hc
end Go.Proofs.Ytnikfjfcbpeieaa.EFrame
end
section
namespace Go.Proofs.Ytnikfjfcbpeieaa.PBa
open Go.RowKit Go.Proofs.YtnikfjfcbpeieaaW.PrintWords Go.Proofs.YtnikfjfcbpeieaaW.PrintLast Go.Proofs.YtnikfjfcbpeieaaW.PrintMore
attribute [local go_sem] max2_int min2_int max_two min_two max_three min_three max_four min_four   -- for this text's walks alone
set_option linter.unusedVariables false
set_option linter.unusedSimpArgs false
def footwayref02_Parse.f (k : Nat) (a0 : ByteArray) : Option (Int × Int × Int × ByteArray × Int) := if (a0.size : Int) < 14 then (some (0, 0, 0, (⟨#[]⟩ : ByteArray), 7)) else (if (a0.size : Int) > 114 then (some (0, 0, 0, (⟨#[]⟩ : ByteArray), 8)) else (if 0 ≤ 6 then (if 6 ≤ (a0.size : Int) then ((footwayref01_Of.f k (a0.extract 0 6)).bind fun t120 => (if 6 ≤ 12 then (if 12 ≤ (a0.size : Int) then ((footwayref01_Of.f k (a0.extract 6 12)).bind fun t121 => (if 12 < (a0.size : Int) then (if 13 < (a0.size : Int) then (if 14 ≤ (a0.size : Int) then ((footwayref02_Right.f t120 t121 (wrap64 ((wrap64 (256 * (wrap64 (bt a0 12)))) + (wrap64 (bt a0 13)))) (a0.extract 14 a0.size)).bind fun t123 => (if t123 = true then (some (t120, t121, wrap64 ((wrap64 (256 * (wrap64 (bt a0 12)))) + (wrap64 (bt a0 13))), a0.extract 14 a0.size, 0)) else (some (0, 0, 0, (⟨#[]⟩ : ByteArray), 10)))) else (none)) else (none)) else (none))) else (none)) else (none))) else (none)) else (none)))
theorem footwayref02_Parse.mono : ∀ a0 k, LeO (footwayref02_Parse.f k a0) (footwayref02_Parse.f (k + 1) a0) := by
 intro a0 k
 unfold footwayref02_Parse.f
 repeat' first
   | (with_reducible exact footwayref01_Of.mono _ _)
   | (with_reducible exact LeO.refl _)
   | (with_reducible exact LeO.none _)
   | (with_reducible refine LeO.ite ?_ ?_)
   | (with_reducible refine LeO.bind ?_ (fun _ => ?_))
   | exact footwayref01_Of.mono _ _
   | exact LeO.none _
   | refine LeO.ite ?_ ?_
   | refine LeO.bind ?_ (fun _ => ?_)
def footwayref02_Parse.T5 : Bool × List (List Nat × List Nat) := (true, [([], []), ([0], [0]), ([1], [1]), ([], []), ([3], [3]), ([4, 2], [4]), ([], []), ([6], [6]), ([7], [7]), ([8], [8]), ([], []), ([10], [10]), ([11], [11]), ([9, 12], [9, 12]), ([], []), ([14], [14]), ([2, 5, 13, 15], [2, 5, 13, 15]), ([], []), ([17, 16, 5, 0, 1, 2, 3, 4, 5, 6, 7, 8, 9, 10, 11, 12, 13, 14, 15, 16, 17], [16, 17])])
def footwayref02_Parse.B5 : List Nat := [0, 1, 3, 0, 8, 31, 0, 64, 192, 448, 0, 1024, 3072, 8128, 0, 16384, 65535, 0, 262143]
theorem footwayref02_Parse.tab5 : rtab .any (opsOf Try.f24 5) = footwayref02_Parse.T5 := by kernel_rfl
theorem footwayref02_Parse.bits5 : waitsOk footwayref02_Parse.T5.2 footwayref02_Parse.B5 = true := by kernel_rfl
set_option maxHeartbeats 8000000 in
set_option maxRecDepth 100000 in
theorem footwayref02_Parse.calls (k : Nat) (a0 : ByteArray) (r1 : Int) (r2 : Int) (r3 : Int) (r4 : ByteArray) (r5 : Int) (w : World) (h : footwayref02_Parse.f k a0 = some (r1, r2, r3, r4, r5)) :
  Calls Tq.prog 24 #[.string a0] w fun e w' => e = .returned (.tuple #[.agg #[.int .i64 r1, .int .i64 r2, .int .i64 r3, .string r4], .int .i64 r5]) ∧ Below w.heap.size w w' := by
 have hu23 := Tq.underlying23
 have HB := Aside0.mk (Below.refl w.heap.size w)
 have H := h
 unfold footwayref02_Parse.f at H
 clear h
 by_cases c2 : (a0.size : Int) < 14
 ·rw [if_pos c2] at H
  have c2b0 : decide ((a0.size : Int) < 14) = true := decide_eq_true c2
  have c2b1 : decide (a0.size < 14) = true := decide_eq_true (by omega)
  clear c2
  simp only [Option.some.injEq, Prod.mk.injEq] at H
  obtain ⟨rfl, rfl, rfl, rfl, rfl⟩ := H
  go_enter Tq.func24, Try.ntmps24
  go_wp2_with (first | ((with_reducible refine gate_dst (N := 2) rfl ?_); refine box_event ?hg (N := 2) ?hd (cs := #[.int .i64 0, .int .i64 0, .int .i64 0, .string (⟨#[]⟩ : ByteArray)]) (t := 23) ?hr ?_; (case hd => rfl); (case hg => rfl); (case hr => first | (go_simp; done) | (go_simp; rfl)); intro gb119 hg w3 hbox hb; have BK119 := Aside0.mk (hbox); have GW119 := Aside0.mk ((by rw [hg]; exact (below_size (by exact bw HB.out)) : w.heap.size ≤ gb119)); have GE119 := Aside0.mk ((by rw [hg]; exact (below_size (by exact bw HB.out)) : w.heap.size ≤ gb119)); replace HB := Aside0.mk (below_step (by exact bw HB.out) hb); clear hb hbox hg; obtain ⟨hcz4_0, hcz4_1, hcz4_2, hcz4_3, hfz4_0, hfz4_1, hfz4_2, hfz4_3⟩ := cs4 BK119.out))
  refine bodyPost_ret (results_ct rfl _ _ gb119 23 #[.int .i64 0, .int .i64 0, .int .i64 0, .string (⟨#[]⟩ : ByteArray)] (0, 0) _ rfl (by (with_reducible repeat (first | refine blk_drewN ?_ _ | refine blk_drew ?_ | refine blk_alloc ?_ _)); refine blk_put (cs := #[.int .i64 0, .int .i64 0, .int .i64 0, .string (⟨#[]⟩ : ByteArray)]) ?_ 3 _ rfl; (with_reducible repeat (first | refine blk_drewN ?_ _ | refine blk_drew ?_ | refine blk_alloc ?_ _)); refine blk_put (cs := #[.int .i64 0, .int .i64 0, .int .i64 0, .string (⟨#[]⟩ : ByteArray)]) ?_ 2 _ rfl; (with_reducible repeat (first | refine blk_drewN ?_ _ | refine blk_drew ?_ | refine blk_alloc ?_ _)); refine blk_put (cs := #[.int .i64 0, .int .i64 0, .int .i64 0, .string (⟨#[]⟩ : ByteArray)]) ?_ 1 _ rfl; (with_reducible repeat (first | refine blk_drewN ?_ _ | refine blk_drew ?_ | refine blk_alloc ?_ _)); refine blk_put (cs := #[.int .i64 0, .int .i64 0, .int .i64 0, .string (⟨#[]⟩ : ByteArray)]) ?_ 0 _ rfl; (with_reducible repeat (first | refine blk_drewN ?_ _ | refine blk_drew ?_ | refine blk_alloc ?_ _)); exact BK119.out) Tq.underlying23 rfl (by kernel_rfl)) rfl ?_
  exact ⟨by first | rfl | (simp [errW_none, errW_some] <;> rfl) | (simp [*, errW_none, errW_some] <;> rfl), by exact bw HB.out⟩
 ·rw [if_neg c2] at H
  have c2b0 : decide ((a0.size : Int) < 14) = false := decide_eq_false c2
  have c2b1 : decide (a0.size < 14) = false := decide_eq_false (by omega)
  clear c2
  by_cases c5 : (a0.size : Int) > 114
  ·rw [if_pos c5] at H
   have c5b0 : decide (114 < (a0.size : Int)) = true := decide_eq_true c5
   have c5b1 : decide (114 < a0.size) = true := decide_eq_true (by omega)
   clear c5
   simp only [Option.some.injEq, Prod.mk.injEq] at H
   obtain ⟨rfl, rfl, rfl, rfl, rfl⟩ := H
   go_enter Tq.func24, Try.ntmps24
   go_wp2_with (first | ((with_reducible refine gate_dst (N := 2) rfl ?_); refine box_event ?hg (N := 2) ?hd (cs := #[.int .i64 0, .int .i64 0, .int .i64 0, .string (⟨#[]⟩ : ByteArray)]) (t := 23) ?hr ?_; (case hd => rfl); (case hg => rfl); (case hr => first | (go_simp; done) | (go_simp; rfl)); intro gb119 hg w6 hbox hb; have BK119 := Aside0.mk (hbox); have GW119 := Aside0.mk ((by rw [hg]; exact (below_size (by exact bw HB.out)) : w.heap.size ≤ gb119)); have GE119 := Aside0.mk ((by rw [hg]; exact (below_size (by exact bw HB.out)) : w.heap.size ≤ gb119)); replace HB := Aside0.mk (below_step (by exact bw HB.out) hb); clear hb hbox hg; obtain ⟨hcz7_0, hcz7_1, hcz7_2, hcz7_3, hfz7_0, hfz7_1, hfz7_2, hfz7_3⟩ := cs4 BK119.out))
   refine bodyPost_ret (results_ct rfl _ _ gb119 23 #[.int .i64 0, .int .i64 0, .int .i64 0, .string (⟨#[]⟩ : ByteArray)] (0, 0) _ rfl (by (with_reducible repeat (first | refine blk_drewN ?_ _ | refine blk_drew ?_ | refine blk_alloc ?_ _)); refine blk_put (cs := #[.int .i64 0, .int .i64 0, .int .i64 0, .string (⟨#[]⟩ : ByteArray)]) ?_ 3 _ rfl; (with_reducible repeat (first | refine blk_drewN ?_ _ | refine blk_drew ?_ | refine blk_alloc ?_ _)); refine blk_put (cs := #[.int .i64 0, .int .i64 0, .int .i64 0, .string (⟨#[]⟩ : ByteArray)]) ?_ 2 _ rfl; (with_reducible repeat (first | refine blk_drewN ?_ _ | refine blk_drew ?_ | refine blk_alloc ?_ _)); refine blk_put (cs := #[.int .i64 0, .int .i64 0, .int .i64 0, .string (⟨#[]⟩ : ByteArray)]) ?_ 1 _ rfl; (with_reducible repeat (first | refine blk_drewN ?_ _ | refine blk_drew ?_ | refine blk_alloc ?_ _)); refine blk_put (cs := #[.int .i64 0, .int .i64 0, .int .i64 0, .string (⟨#[]⟩ : ByteArray)]) ?_ 0 _ rfl; (with_reducible repeat (first | refine blk_drewN ?_ _ | refine blk_drew ?_ | refine blk_alloc ?_ _)); exact BK119.out) Tq.underlying23 rfl (by kernel_rfl)) rfl ?_
   exact ⟨by first | rfl | (simp [errW_none, errW_some] <;> rfl) | (simp [*, errW_none, errW_some] <;> rfl), by exact bw HB.out⟩
  ·rw [if_neg c5] at H
   have c5b0 : decide (114 < (a0.size : Int)) = false := decide_eq_false c5
   have c5b1 : decide (114 < a0.size) = false := decide_eq_false (by omega)
   clear c5
   by_cases c8 : 0 ≤ 6
   case' neg =>
    rw [if_neg c8] at H
    exact absurd H (by simp)
   case' pos =>
    rw [if_pos c8] at H
    have c8b0 := eq_true c8
    have c8b1 : decide (0 ≤ 6) = true := decide_eq_true c8
    clear c8
    by_cases c9 : 6 ≤ (a0.size : Int)
    case' neg =>
     rw [if_neg c9] at H
     exact absurd H (by simp)
    case' pos =>
     rw [if_pos c9] at H
     have c9b0 := eq_true c9
     have c9b1 : decide (6 ≤ (a0.size : Int)) = true := decide_eq_true c9
     clear c9
     replace H := Option.bind_eq_some_iff.mp H
     obtain ⟨t120, A100, H⟩ := H
     try dsimp only at H
     have A10 := Aside0.mk A100
     clear A100
     by_cases c11 : 6 ≤ 12
     case' neg =>
      rw [if_neg c11] at H
      exact absurd H (by simp)
     case' pos =>
      rw [if_pos c11] at H
      have c11b0 := eq_true c11
      have c11b1 : decide (6 ≤ 12) = true := decide_eq_true c11
      clear c11
      by_cases c12 : 12 ≤ (a0.size : Int)
      case' neg =>
       rw [if_neg c12] at H
       exact absurd H (by simp)
      case' pos =>
       rw [if_pos c12] at H
       have c12b0 := eq_true c12
       have c12b1 : decide (12 ≤ (a0.size : Int)) = true := decide_eq_true c12
       clear c12
       replace H := Option.bind_eq_some_iff.mp H
       obtain ⟨t121, A130, H⟩ := H
       try dsimp only at H
       have A13 := Aside0.mk A130
       clear A130
       by_cases c14 : 12 < (a0.size : Int)
       case' neg =>
        rw [if_neg c14] at H
        exact absurd H (by simp)
       case' pos =>
        rw [if_pos c14] at H
        have c14b0 : decide (12 < (a0.size : Int)) = true := decide_eq_true c14
        have c14b1 : decide (12 < a0.size) = true := decide_eq_true (by omega)
        clear c14
        by_cases c16 : 13 < (a0.size : Int)
        case' neg =>
         rw [if_neg c16] at H
         exact absurd H (by simp)
        case' pos =>
         rw [if_pos c16] at H
         have c16b0 : decide (13 < (a0.size : Int)) = true := decide_eq_true c16
         have c16b1 : decide (13 < a0.size) = true := decide_eq_true (by omega)
         clear c16
         by_cases c18 : 14 ≤ (a0.size : Int)
         case' neg =>
          rw [if_neg c18] at H
          exact absurd H (by simp)
         case' pos =>
          rw [if_pos c18] at H
          have c18b0 := eq_true c18
          have c18b1 : decide (14 ≤ (a0.size : Int)) = true := decide_eq_true c18
          clear c18
          replace H := Option.bind_eq_some_iff.mp H
          obtain ⟨t123, A190, H⟩ := H
          try dsimp only at H
          have A19 := Aside0.mk A190
          clear A190
          by_cases c20 : t123 = true
          case' neg =>
           replace c20 := Bool.eq_false_iff.mpr c20
           subst c20
           rw [if_neg (show ¬ (false = true) by decide)] at H
           simp only [Option.some.injEq, Prod.mk.injEq] at H
           obtain ⟨rfl, rfl, rfl, rfl, rfl⟩ := H
          case' pos =>
           subst c20
           rw [if_pos rfl] at H
           simp only [Option.some.injEq, Prod.mk.injEq] at H
           obtain ⟨rfl, rfl, rfl, rfl, rfl⟩ := H
   all_goals
    go_enter Tq.func24, Try.ntmps24
    try go_wp2_with (first | ((with_reducible refine gate_dst (N := 2) rfl ?_); refine box_event ?hg (N := 2) ?hd (cs := #[.int .i64 0, .int .i64 0, .int .i64 0, .string (⟨#[]⟩ : ByteArray)]) (t := 23) ?hr ?_; (case hd => rfl); (case hg => rfl); (case hr => first | (go_simp; done) | (go_simp; rfl)); intro gb119 hg w21 hbox hb; have BK119 := Aside0.mk (hbox); have GW119 := Aside0.mk ((by rw [hg]; exact (below_size (by exact bw HB.out)) : w.heap.size ≤ gb119)); have GE119 := Aside0.mk ((by rw [hg]; exact (below_size (by exact bw HB.out)) : w.heap.size ≤ gb119)); replace HB := Aside0.mk (below_step (by exact bw HB.out) hb); clear hb hbox hg))
    replace BK119 := Aside0.mk (blk_drew BK119.out)
    replace HB := Aside0.mk (below_drew1 HB.out)
    have p15 : 0 ≤ (12 : Int) := (by omega)
    have q15 : 12 < a0.size := (by have : (12 : Int) < (a0.size : Int) := of_decide_eq_true (by first | (with_reducible assumption) | assumption); omega)
    have hx15 : ∀ h : 12 < a0.size, ((a0[12]'h).toNat : Int) = bt a0 12 := bt_at a0 12
    clear p15
    have qi15 : (12 < (a0.size : Int)) = True := eq_true (of_decide_eq_true (by first | (with_reducible assumption) | assumption))
    replace q15 := eq_true q15
    have p17 : 0 ≤ (13 : Int) := (by omega)
    have q17 : 13 < a0.size := (by have : (13 : Int) < (a0.size : Int) := of_decide_eq_true (by first | (with_reducible assumption) | assumption); omega)
    have hx17 : ∀ h : 13 < a0.size, ((a0[13]'h).toNat : Int) = bt a0 13 := bt_at a0 13
    clear p17
    have qi17 : (13 < (a0.size : Int)) = True := eq_true (of_decide_eq_true (by first | (with_reducible assumption) | assumption))
    replace q17 := eq_true q17
    refine start_ (n := 19) (S := fun w' => True) (ds := []) #[ff, ff, ff, ff, ff, ff, ff, ff, ff, ff, ff, ff, ff, ff, ff, ff, ff, ff, ff] (by kernel_rfl) rfl rfl trivial (fun hHeld => ?_); refine with_tabW footwayref02_Parse.tab5 footwayref02_Parse.bits5 (fun HT_ HW_ => ?_)
    generalize w21.drew = w22 at BK119 HB hHeld ⊢
    refine pure_ (i := 0) (N := some 13) (v := ?_) (a' := ?_) #[tt, ff, ff, ff, ff, ff, ff, ff, ff, ff, ff, ff, ff, ff, ff, ff, ff, ff, ff] rfl rfl (any_of HT_.out (by kernel_rfl)) (fun _ _ _ h => h) (Or.inl ⟨by rfl, ?_⟩) ?_ ?_
    rotate_left
    ·intro w'
     go_simp
     with_reducible rfl
    rotate_left
    ·simp only [Act.put, sA, sZ, sS, i64_w, i32_w]
     rfl
    refine pure_ (i := 1) (N := some 14) (v := ?_) (a' := ?_) #[tt, tt, ff, ff, ff, ff, ff, ff, ff, ff, ff, ff, ff, ff, ff, ff, ff, ff, ff] rfl rfl (any_of HT_.out (by kernel_rfl)) (fun _ _ _ h => h) (Or.inl ⟨by rfl, ?_⟩) ?_ ?_
    rotate_left
    ·intro w'
     go_simp
     with_reducible rfl
    rotate_left
    ·simp only [Act.put, sA, sZ, sS, i64_w, i32_w]
     rfl
    refine pure_ (i := 3) (N := some 16) (v := ?_) (a' := ?_) #[tt, tt, ff, tt, ff, ff, ff, ff, ff, ff, ff, ff, ff, ff, ff, ff, ff, ff, ff] rfl rfl (any_of HT_.out (by kernel_rfl)) (fun _ _ _ h => h) (Or.inl ⟨by rfl, ?_⟩) ?_ ?_
    rotate_left
    ·intro w'
     go_simp
     with_reducible rfl
    rotate_left
    ·simp only [Act.put, sA, sZ, sS, i64_w, i32_w]
     rfl
    refine pure_ (i := 4) (N := some 17) (v := ?_) (a' := ?_) #[tt, tt, ff, tt, tt, ff, ff, ff, ff, ff, ff, ff, ff, ff, ff, ff, ff, ff, ff] rfl rfl (any_of HT_.out (by kernel_rfl)) (fun _ _ _ h => h) (Or.inl ⟨by rfl, ?_⟩) ?_ ?_
    rotate_left
    ·intro w'
     go_simp
     with_reducible rfl
    rotate_left
    ·simp only [Act.put, sA, sZ, sS, i64_w, i32_w]
     rfl
    refine pure_ (i := 6) (N := some 19) (v := ?_) (a' := ?_) #[tt, tt, ff, tt, tt, ff, tt, ff, ff, ff, ff, ff, ff, ff, ff, ff, ff, ff, ff] rfl rfl (any_of HT_.out (by kernel_rfl)) (fun _ _ _ h => h) (Or.inl ⟨by rfl, ?_⟩) ?_ ?_
    rotate_left
    ·intro w'
     go_simp
     with_reducible rfl
    rotate_left
    ·simp only [Act.put, sA, sZ, sS, i64_w, i32_w]
     rfl
    refine pure_ (i := 10) (N := some 23) (v := ?_) (a' := ?_) #[tt, tt, ff, tt, tt, ff, tt, ff, ff, ff, tt, ff, ff, ff, ff, ff, ff, ff, ff] rfl rfl (any_of HT_.out (by kernel_rfl)) (fun _ _ _ h => h) (Or.inl ⟨by rfl, ?_⟩) ?_ ?_
    rotate_left
    ·intro w'
     go_simp
     with_reducible rfl
    rotate_left
    ·simp only [Act.put, sA, sZ, sS, i64_w, i32_w]
     rfl
    refine pure_ (i := 14) (N := some 27) (v := ?_) (a' := ?_) #[tt, tt, ff, tt, tt, ff, tt, ff, ff, ff, tt, ff, ff, ff, tt, ff, ff, ff, ff] rfl rfl (any_of HT_.out (by kernel_rfl)) (fun _ _ _ h => h) (Or.inl ⟨by rfl, ?_⟩) ?_ ?_
    rotate_left
    ·intro w'
     go_simp
     with_reducible rfl
    rotate_left
    ·simp only [Act.put, sA, sZ, sS, i64_w, i32_w]
     rfl
    refine pure_ (i := 15) (N := some 28) (v := ?_) (a' := ?_) #[tt, tt, ff, tt, tt, ff, tt, ff, ff, ff, tt, ff, ff, ff, tt, tt, ff, ff, ff] rfl rfl (any_of HT_.out (by kernel_rfl)) (fun _ _ _ h => h) (Or.inl ⟨by rfl, ?_⟩) ?_ ?_
    rotate_left
    ·intro w'
     go_simp
     with_reducible rfl
    rotate_left
    ·simp only [Act.put, sA, sZ, sS, i64_w, i32_w]
     rfl
    refine take_ (i := 7) (N := some 20) (v := ?_) (a' := ?_) #[tt, tt, ff, tt, tt, ff, tt, tt, ff, ff, tt, ff, ff, ff, tt, tt, ff, ff, ff] rfl rfl (take_ofW HT_.out HW_.out (by kernel_rfl)) (fun _ _ _ h => h) (Or.inl ⟨by rfl, ?_⟩) hHeld ?_ ?_
    rotate_left
    ·intro w' _
     go_simp
     with_reducible rfl
    rotate_left
    ·simp only [Act.put, sA, sZ, sS, i64_w, i32_w]
     rfl
    refine pure_ (i := 8) (N := some 21) (v := ?_) (a' := ?_) #[tt, tt, ff, tt, tt, ff, tt, tt, tt, ff, tt, ff, ff, ff, tt, tt, ff, ff, ff] rfl rfl (any_of HT_.out (by kernel_rfl)) (fun _ _ _ h => h) (Or.inl ⟨by rfl, ?_⟩) ?_ ?_
    rotate_left
    ·intro w'
     go_simp
     with_reducible rfl
    rotate_left
    ·simp only [Act.put, sA, sZ, sS, i64_w, i32_w]
     rfl
    refine pure_ (i := 9) (N := some 22) (v := ?_) (a' := ?_) #[tt, tt, ff, tt, tt, ff, tt, tt, tt, tt, tt, ff, ff, ff, tt, tt, ff, ff, ff] rfl rfl (any_of HT_.out (by kernel_rfl)) (fun _ _ _ h => h) (Or.inl ⟨by rfl, ?_⟩) ?_ ?_
    rotate_left
    ·intro w'
     go_simp
     with_reducible rfl
    rotate_left
    ·simp only [Act.put, sA, sZ, sS, i64_w, i32_w]
     rfl
    refine take_ (i := 11) (N := some 24) (v := ?_) (a' := ?_) #[tt, tt, ff, tt, tt, ff, tt, tt, tt, tt, tt, tt, ff, ff, tt, tt, ff, ff, ff] rfl rfl (take_ofW HT_.out HW_.out (by kernel_rfl)) (fun _ _ _ h => h) (Or.inl ⟨by rfl, ?_⟩) hHeld ?_ ?_
    rotate_left
    ·intro w' _
     go_simp
     with_reducible rfl
    rotate_left
    ·simp only [Act.put, sA, sZ, sS, i64_w, i32_w]
     rfl
    refine pure_ (i := 12) (N := some 25) (v := ?_) (a' := ?_) #[tt, tt, ff, tt, tt, ff, tt, tt, tt, tt, tt, tt, tt, ff, tt, tt, ff, ff, ff] rfl rfl (any_of HT_.out (by kernel_rfl)) (fun _ _ _ h => h) (Or.inl ⟨by rfl, ?_⟩) ?_ ?_
    rotate_left
    ·intro w'
     go_simp
     with_reducible rfl
    rotate_left
    ·simp only [Act.put, sA, sZ, sS, i64_w, i32_w]
     rfl
    refine pure_ (i := 13) (N := some 26) (v := ?_) (a' := ?_) #[tt, tt, ff, tt, tt, ff, tt, tt, tt, tt, tt, tt, tt, tt, tt, tt, ff, ff, ff] rfl rfl (any_of HT_.out (by kernel_rfl)) (fun _ _ _ h => h) (Or.inl ⟨by rfl, ?_⟩) ?_ ?_
    rotate_left
    ·intro w'
     go_simp
     with_reducible rfl
    rotate_left
    ·simp only [Act.put, sA, sZ, sS, i64_w, i32_w]
     rfl
    refine join_ (σ := Nat) 1 #[tt, tt, tt, tt, tt, tt, tt, tt, tt, tt, tt, tt, tt, tt, tt, tt, tt, tt, ff] (fun s_ => [(15, .int .i64 t120), (18, .int .i64 t121), (4, .pointer (some ⟨s_, 0, none⟩)), (29, .agg #[.int .i64 t120, .int .i64 t121, .int .i64 (wrap64 ((wrap64 (256 * (wrap64 (bt a0 12)))) + (wrap64 (bt a0 13)))), .string (a0.extract 14 a0.size)])]) (fun s_ w' => (w'.heap[gb119]? = some (.cells #[.int .i64 0, .int .i64 0, .int .i64 0, .string (⟨#[]⟩ : ByteArray)] 23 (0, 0))) ∧ (w'.heap[s_]? = some (.cells #[.int .i64 0, .int .i64 0, .int .i64 0, .string (⟨#[]⟩ : ByteArray)] 23 (0, 0))) ∧ (w.heap.size ≤ s_) ∧ (w.heap.size ≤ s_) ∧ (gb119 ≠ s_) ∧ (s_ ≠ gb119) ∧ (Below w.heap.size w w')) ?_ ?_
    rotate_left
    ·intro hCont
     refine two_ (i := 2) (j := 17) (Ni := some 15) (Nj := some 4) #[tt, tt, tt, tt, tt, ff, tt, tt, tt, tt, tt, tt, tt, tt, tt, tt, ff, ff, ff] #[tt, tt, ff, tt, tt, ff, tt, tt, tt, tt, tt, tt, tt, tt, tt, tt, ff, tt, ff] rfl rfl rfl rfl (two_of HT_.out (by kernel_rfl)) (by decide) (by decide) (fun K hK => ?_) (fun K hK => ?_)
     ·skip
      refine goes_ Tq.func32 (by kernel_rfl) rfl #[.string (a0.extract 0 6)] (by rfl) rfl rfl (by (try simp only [List.map_toArray, List.map_cons, List.map_nil]); first | done | rfl | (simp only [List.length_drop, List.length_take]; rfl)) ?_
      with_reducible refine (footwayref01_Of.calls k (a0.extract 0 6) t120 _ A10.out).mono ?_
      rintro e w' ⟨rfl, ⟨nd, rfl⟩⟩
      refine ⟨_, rfl, ?_⟩
      refine hK.out _ _ trivial (fun hHeld => ?_)
      clear hK K
      refine norm_ (a' := ?_) ?_ ?_
      rotate_left
      ·show Act.put _ (some 15) _ = _
       simp only [Act.put, sA, sZ, sS, i64_w, i32_w]
       rfl
      refine two_ (i := 5) (j := 17) (Ni := some 18) (Nj := some 4) #[tt, tt, tt, tt, tt, tt, tt, tt, tt, tt, tt, tt, tt, tt, tt, tt, ff, ff, ff] #[tt, tt, tt, tt, tt, ff, tt, tt, tt, tt, tt, tt, tt, tt, tt, tt, ff, tt, ff] rfl rfl rfl rfl (two_of HT_.out (by kernel_rfl)) (by decide) (by decide) (fun K hK => ?_) (fun K hK => ?_)
      ·skip
       refine goes_ Tq.func32 (by kernel_rfl) rfl #[.string (a0.extract 6 12)] (by rfl) rfl rfl (by (try simp only [List.map_toArray, List.map_cons, List.map_nil]); first | done | rfl | (simp only [List.length_drop, List.length_take]; rfl)) ?_
       with_reducible refine (footwayref01_Of.calls k (a0.extract 6 12) t121 _ A13.out).mono ?_
       rintro e w' ⟨rfl, ⟨nd, rfl⟩⟩
       refine ⟨_, rfl, ?_⟩
       refine hK.out _ _ trivial (fun hHeld => ?_)
       clear hK K
       refine norm_ (a' := ?_) ?_ ?_
       rotate_left
       ·show Act.put _ (some 18) _ = _
        simp only [Act.put, sA, sZ, sS, i64_w, i32_w]
        rfl
       refine pure_ (i := 16) (N := some 29) (v := ?_) (a' := ?_) #[tt, tt, tt, tt, tt, tt, tt, tt, tt, tt, tt, tt, tt, tt, tt, tt, tt, ff, ff] rfl rfl (any_of HT_.out (by kernel_rfl)) (fun _ _ _ h => h) (Or.inl ⟨by rfl, ?_⟩) ?_ ?_
       rotate_left
       ·intro w'
        go_simp
        with_reducible rfl
       rotate_left
       ·simp only [Act.put, sA, sZ, sS, i64_w, i32_w]
        rfl
       refine one_ (i := 17) (N := some 4) #[tt, tt, tt, tt, tt, tt, tt, tt, tt, tt, tt, tt, tt, tt, tt, tt, tt, tt, ff] rfl rfl (one_of HT_.out (by kernel_rfl)) (by decide) (fun K hK => ?_)
       refine box_step ?hg (N := 4) ?hd (cs := #[.int .i64 0, .int .i64 0, .int .i64 0, .string (⟨#[]⟩ : ByteArray)]) (t := 23) ?hr ?_; (case hd => rfl); (case hg => rfl); (case hr => first | (go_simp; done) | (go_simp; rfl))
       intro gb122 hg w23 hbox hb
       have BK122 := Aside0.mk (hbox)
       have GW122 := Aside0.mk ((by rw [hg]; exact (below_size (by exact bw HB.out)) : w.heap.size ≤ gb122))
       have GE122 := Aside0.mk ((by rw [hg]; exact (below_size (by exact bw HB.out)) : w.heap.size ≤ gb122))
       replace HB := Aside0.mk (below_step (by exact bw HB.out) hb)
       have NB119_122 := Aside0.mk ((by rw [hg]; exact Nat.ne_of_lt (blk_lt (g := gb119) (o := .cells #[.int .i64 0, .int .i64 0, .int .i64 0, .string (⟨#[]⟩ : ByteArray)] 23 (0, 0)) (by exact bk BK119.out rfl)) : gb119 ≠ gb122))
       have NB122_119 := Aside0.mk ((by rw [hg]; exact Nat.ne_of_gt (blk_lt (g := gb119) (o := .cells #[.int .i64 0, .int .i64 0, .int .i64 0, .string (⟨#[]⟩ : ByteArray)] 23 (0, 0)) (by exact bk BK119.out rfl)) : gb122 ≠ gb119))
       replace BK119 := Aside0.mk (blk_below (g := gb119) (o := .cells #[.int .i64 0, .int .i64 0, .int .i64 0, .string (⟨#[]⟩ : ByteArray)] 23 (0, 0)) (by exact bk BK119.out rfl) hb)
       clear hb hbox hg
       refine hK.out _ _ trivial (fun hHeld => ?_)
       clear hK K
       refine norm_ (a' := ?_) ?_ ?_
       rotate_left
       ·show Act.put _ (some 4) _ = _
        simp only [Act.put, sA, sZ, sS, i64_w, i32_w]
        rfl
       exact norm_ (by simp only [putAll, Act.put, sA, sZ, sS]) (hCont (gb122) _ ⟨(by exact bk BK119.out rfl), (by exact bk BK122.out rfl), GW122.out, GE122.out, NB119_122.out, NB122_119.out, (by exact bw HB.out)⟩)
      ·skip
       refine box_step ?hg (N := 4) ?hd (cs := #[.int .i64 0, .int .i64 0, .int .i64 0, .string (⟨#[]⟩ : ByteArray)]) (t := 23) ?hr ?_; (case hd => rfl); (case hg => rfl); (case hr => first | (go_simp; done) | (go_simp; rfl))
       intro gb122 hg w23 hbox hb
       have BK122 := Aside0.mk (hbox)
       have GW122 := Aside0.mk ((by rw [hg]; exact (below_size (by exact bw HB.out)) : w.heap.size ≤ gb122))
       have GE122 := Aside0.mk ((by rw [hg]; exact (below_size (by exact bw HB.out)) : w.heap.size ≤ gb122))
       replace HB := Aside0.mk (below_step (by exact bw HB.out) hb)
       have NB119_122 := Aside0.mk ((by rw [hg]; exact Nat.ne_of_lt (blk_lt (g := gb119) (o := .cells #[.int .i64 0, .int .i64 0, .int .i64 0, .string (⟨#[]⟩ : ByteArray)] 23 (0, 0)) (by exact bk BK119.out rfl)) : gb119 ≠ gb122))
       have NB122_119 := Aside0.mk ((by rw [hg]; exact Nat.ne_of_gt (blk_lt (g := gb119) (o := .cells #[.int .i64 0, .int .i64 0, .int .i64 0, .string (⟨#[]⟩ : ByteArray)] 23 (0, 0)) (by exact bk BK119.out rfl)) : gb122 ≠ gb119))
       replace BK119 := Aside0.mk (blk_below (g := gb119) (o := .cells #[.int .i64 0, .int .i64 0, .int .i64 0, .string (⟨#[]⟩ : ByteArray)] 23 (0, 0)) (by exact bk BK119.out rfl) hb)
       clear hb hbox hg
       refine hK.out _ _ trivial (fun hHeld => ?_)
       clear hK K
       refine norm_ (a' := ?_) ?_ ?_
       rotate_left
       ·show Act.put _ (some 4) _ = _
        simp only [Act.put, sA, sZ, sS, i64_w, i32_w]
        rfl
       refine one_ (i := 5) (N := some 18) #[tt, tt, tt, tt, tt, tt, tt, tt, tt, tt, tt, tt, tt, tt, tt, tt, ff, tt, ff] rfl rfl (one_of HT_.out (by kernel_rfl)) (by decide) (fun K hK => ?_)
       refine goes_ Tq.func32 (by kernel_rfl) rfl #[.string (a0.extract 6 12)] (by rfl) rfl rfl (by (try simp only [List.map_toArray, List.map_cons, List.map_nil]); first | done | rfl | (simp only [List.length_drop, List.length_take]; rfl)) ?_
       with_reducible refine (footwayref01_Of.calls k (a0.extract 6 12) t121 _ A13.out).mono ?_
       rintro e w' ⟨rfl, ⟨nd, rfl⟩⟩
       refine ⟨_, rfl, ?_⟩
       refine hK.out _ _ trivial (fun hHeld => ?_)
       clear hK K
       refine norm_ (a' := ?_) ?_ ?_
       rotate_left
       ·show Act.put _ (some 18) _ = _
        simp only [Act.put, sA, sZ, sS, i64_w, i32_w]
        rfl
       refine pure_ (i := 16) (N := some 29) (v := ?_) (a' := ?_) #[tt, tt, tt, tt, tt, tt, tt, tt, tt, tt, tt, tt, tt, tt, tt, tt, tt, tt, ff] rfl rfl (any_of HT_.out (by kernel_rfl)) (fun _ _ _ h => h) (Or.inl ⟨by rfl, ?_⟩) ?_ ?_
       rotate_left
       ·intro w'
        go_simp
        with_reducible rfl
       rotate_left
       ·simp only [Act.put, sA, sZ, sS, i64_w, i32_w]
        rfl
       exact norm_ (by simp only [putAll, Act.put, sA, sZ, sS]) (hCont (gb122) _ ⟨(by exact bk BK119.out rfl), (by exact bk BK122.out rfl), GW122.out, GE122.out, NB119_122.out, NB122_119.out, (by exact bw HB.out)⟩)
     ·skip
      refine box_step ?hg (N := 4) ?hd (cs := #[.int .i64 0, .int .i64 0, .int .i64 0, .string (⟨#[]⟩ : ByteArray)]) (t := 23) ?hr ?_; (case hd => rfl); (case hg => rfl); (case hr => first | (go_simp; done) | (go_simp; rfl))
      intro gb122 hg w23 hbox hb
      have BK122 := Aside0.mk (hbox)
      have GW122 := Aside0.mk ((by rw [hg]; exact (below_size (by exact bw HB.out)) : w.heap.size ≤ gb122))
      have GE122 := Aside0.mk ((by rw [hg]; exact (below_size (by exact bw HB.out)) : w.heap.size ≤ gb122))
      replace HB := Aside0.mk (below_step (by exact bw HB.out) hb)
      have NB119_122 := Aside0.mk ((by rw [hg]; exact Nat.ne_of_lt (blk_lt (g := gb119) (o := .cells #[.int .i64 0, .int .i64 0, .int .i64 0, .string (⟨#[]⟩ : ByteArray)] 23 (0, 0)) (by exact bk BK119.out rfl)) : gb119 ≠ gb122))
      have NB122_119 := Aside0.mk ((by rw [hg]; exact Nat.ne_of_gt (blk_lt (g := gb119) (o := .cells #[.int .i64 0, .int .i64 0, .int .i64 0, .string (⟨#[]⟩ : ByteArray)] 23 (0, 0)) (by exact bk BK119.out rfl)) : gb122 ≠ gb119))
      replace BK119 := Aside0.mk (blk_below (g := gb119) (o := .cells #[.int .i64 0, .int .i64 0, .int .i64 0, .string (⟨#[]⟩ : ByteArray)] 23 (0, 0)) (by exact bk BK119.out rfl) hb)
      clear hb hbox hg
      refine hK.out _ _ trivial (fun hHeld => ?_)
      clear hK K
      refine norm_ (a' := ?_) ?_ ?_
      rotate_left
      ·show Act.put _ (some 4) _ = _
       simp only [Act.put, sA, sZ, sS, i64_w, i32_w]
       rfl
      refine one_ (i := 2) (N := some 15) #[tt, tt, tt, tt, tt, ff, tt, tt, tt, tt, tt, tt, tt, tt, tt, tt, ff, tt, ff] rfl rfl (one_of HT_.out (by kernel_rfl)) (by decide) (fun K hK => ?_)
      refine goes_ Tq.func32 (by kernel_rfl) rfl #[.string (a0.extract 0 6)] (by rfl) rfl rfl (by (try simp only [List.map_toArray, List.map_cons, List.map_nil]); first | done | rfl | (simp only [List.length_drop, List.length_take]; rfl)) ?_
      with_reducible refine (footwayref01_Of.calls k (a0.extract 0 6) t120 _ A10.out).mono ?_
      rintro e w' ⟨rfl, ⟨nd, rfl⟩⟩
      refine ⟨_, rfl, ?_⟩
      refine hK.out _ _ trivial (fun hHeld => ?_)
      clear hK K
      refine norm_ (a' := ?_) ?_ ?_
      rotate_left
      ·show Act.put _ (some 15) _ = _
       simp only [Act.put, sA, sZ, sS, i64_w, i32_w]
       rfl
      refine one_ (i := 5) (N := some 18) #[tt, tt, tt, tt, tt, tt, tt, tt, tt, tt, tt, tt, tt, tt, tt, tt, ff, tt, ff] rfl rfl (one_of HT_.out (by kernel_rfl)) (by decide) (fun K hK => ?_)
      refine goes_ Tq.func32 (by kernel_rfl) rfl #[.string (a0.extract 6 12)] (by rfl) rfl rfl (by (try simp only [List.map_toArray, List.map_cons, List.map_nil]); first | done | rfl | (simp only [List.length_drop, List.length_take]; rfl)) ?_
      with_reducible refine (footwayref01_Of.calls k (a0.extract 6 12) t121 _ A13.out).mono ?_
      rintro e w' ⟨rfl, ⟨nd, rfl⟩⟩
      refine ⟨_, rfl, ?_⟩
      refine hK.out _ _ trivial (fun hHeld => ?_)
      clear hK K
      refine norm_ (a' := ?_) ?_ ?_
      rotate_left
      ·show Act.put _ (some 18) _ = _
       simp only [Act.put, sA, sZ, sS, i64_w, i32_w]
       rfl
      refine pure_ (i := 16) (N := some 29) (v := ?_) (a' := ?_) #[tt, tt, tt, tt, tt, tt, tt, tt, tt, tt, tt, tt, tt, tt, tt, tt, tt, tt, ff] rfl rfl (any_of HT_.out (by kernel_rfl)) (fun _ _ _ h => h) (Or.inl ⟨by rfl, ?_⟩) ?_ ?_
      rotate_left
      ·intro w'
       go_simp
       with_reducible rfl
      rotate_left
      ·simp only [Act.put, sA, sZ, sS, i64_w, i32_w]
       rfl
      exact norm_ (by simp only [putAll, Act.put, sA, sZ, sS]) (hCont (gb122) _ ⟨(by exact bk BK119.out rfl), (by exact bk BK122.out rfl), GW122.out, GE122.out, NB119_122.out, NB122_119.out, (by exact bw HB.out)⟩)
    rintro gb122 w24 ⟨h0_, h1_, h2_, h3_, h4_, h5_, h6_⟩
    have n0_ : Aside0 (w24.heap[gb119]? = some (.cells #[.int .i64 0, .int .i64 0, .int .i64 0, .string (⟨#[]⟩ : ByteArray)] 23 (0, 0))) := ⟨h0_⟩
    have n1_ : Aside0 (w24.heap[gb122]? = some (.cells #[.int .i64 0, .int .i64 0, .int .i64 0, .string (⟨#[]⟩ : ByteArray)] 23 (0, 0))) := ⟨h1_⟩
    have n2_ : Aside0 (w.heap.size ≤ gb122) := ⟨h2_⟩
    have n3_ : Aside0 (w.heap.size ≤ gb122) := ⟨h3_⟩
    have n4_ : Aside0 (gb119 ≠ gb122) := ⟨h4_⟩
    have n5_ : Aside0 (gb122 ≠ gb119) := ⟨h5_⟩
    have n6_ : Aside0 (Below w.heap.size w w24) := ⟨h6_⟩
    clear BK119
    clear HB
    clear h0_ h1_ h2_ h3_ h4_ h5_ h6_
    have BK119 := n0_
    have BK122 := n1_
    have GW122 := n2_
    have GE122 := n3_
    have NB119_122 := n4_
    have NB122_119 := n5_
    have HB := n6_
    clear n0_ n1_ n2_ n3_ n4_ n5_ n6_
    have hHeld := trivial
    refine norm_ (a' := ?_) ?_ ?_
    rotate_left
    ·simp only [putAll, Act.put, sA, sZ, sS]
     rfl
    refine one_ (i := 18) (N := none) #[tt, tt, tt, tt, tt, tt, tt, tt, tt, tt, tt, tt, tt, tt, tt, tt, tt, tt, tt] rfl rfl (one_of HT_.out (by kernel_rfl)) (by decide) (fun K hK => ?_)
    have hs25 : w24.cell? ⟨gb122, 0, none⟩ = some (.int .i64 0) := (blk_cell BK122.out 0).trans rfl
    have hfs25 := blk_frozen BK122.out 0
    have hns25_0 := NB119_122.out
    have hms25_0 := NB122_119.out
    have hs26 : w24.cell? ⟨gb122, 1, none⟩ = some (.int .i64 0) := (blk_cell BK122.out 1).trans rfl
    have hfs26 := blk_frozen BK122.out 1
    have hns26_0 := NB119_122.out
    have hms26_0 := NB122_119.out
    have hs27 : w24.cell? ⟨gb122, 2, none⟩ = some (.int .i64 0) := (blk_cell BK122.out 2).trans rfl
    have hfs27 := blk_frozen BK122.out 2
    have hns27_0 := NB119_122.out
    have hms27_0 := NB122_119.out
    have hs28 : w24.cell? ⟨gb122, 3, none⟩ = some (.string (⟨#[]⟩ : ByteArray)) := (blk_cell BK122.out 3).trans rfl
    have hfs28 := blk_frozen BK122.out 3
    have hns28_0 := NB119_122.out
    have hms28_0 := NB122_119.out
    refine skip_ (w1 := ?_) (by rfl) rfl ?_ ?_
    rotate_left
    ·go_simp
     rfl
    refine hK.out _ _ trivial (fun hHeld => ?_)
    clear hK K
    refine done_ (done_of HT_.out (by kernel_rfl)) ?_
    have hnb29 := NB122_119.out
    have hnc29 := NB119_122.out
    obtain ⟨hcz30_0, hcz30_1, hcz30_2, hcz30_3, hfz30_0, hfz30_1, hfz30_2, hfz30_3⟩ := cs4 BK122.out
    try go_wp2_with (first | ((with_reducible refine gate_callee (f := 25) rfl ?_); refine goesL_ (some 31) rfl rfl Tq.func25 (by kernel_rfl) rfl #[.agg #[.int .i64 t120, .int .i64 t121, .int .i64 (wrap64 ((wrap64 (256 * (wrap64 (bt a0 12)))) + (wrap64 (bt a0 13)))), .string (a0.extract 14 a0.size)]] rfl (by (try simp only [List.map_toArray, List.map_cons, List.map_nil]); first | done | rfl | (simp only [List.length_drop, List.length_take]; rfl)) ?_; (with_reducible refine (footwayref02_Right.calls t120 t121 (wrap64 ((wrap64 (256 * (wrap64 (bt a0 12)))) + (wrap64 (bt a0 13)))) (a0.extract 14 a0.size) _ _ A19.out).mono ?_); rintro e w31 ⟨rfl, hb⟩; refine ⟨_, rfl, ?_⟩; replace BK119 := Aside0.mk (blk_below (g := gb119) (o := .cells #[.int .i64 0, .int .i64 0, .int .i64 0, .string (⟨#[]⟩ : ByteArray)] 23 (0, 0)) (by exact bk BK119.out rfl) hb); replace BK122 := Aside0.mk (blk_below (g := gb122) (o := .cells #[.int .i64 t120, .int .i64 t121, .int .i64 (wrap64 ((wrap64 (256 * (wrap64 (bt a0 12)))) + (wrap64 (bt a0 13)))), .string (a0.extract 14 a0.size)] 23 (0, 0)) (by (with_reducible repeat (first | refine blk_drewN ?_ _ | refine blk_drew ?_ | refine blk_alloc ?_ _)); refine blk_put (cs := #[.int .i64 t120, .int .i64 t121, .int .i64 (wrap64 ((wrap64 (256 * (wrap64 (bt a0 12)))) + (wrap64 (bt a0 13)))), .string (⟨#[]⟩ : ByteArray)]) ?_ 3 _ rfl; (with_reducible repeat (first | refine blk_drewN ?_ _ | refine blk_drew ?_ | refine blk_alloc ?_ _)); refine blk_put (cs := #[.int .i64 t120, .int .i64 t121, .int .i64 0, .string (⟨#[]⟩ : ByteArray)]) ?_ 2 _ rfl; (with_reducible repeat (first | refine blk_drewN ?_ _ | refine blk_drew ?_ | refine blk_alloc ?_ _)); refine blk_put (cs := #[.int .i64 t120, .int .i64 0, .int .i64 0, .string (⟨#[]⟩ : ByteArray)]) ?_ 1 _ rfl; (with_reducible repeat (first | refine blk_drewN ?_ _ | refine blk_drew ?_ | refine blk_alloc ?_ _)); refine blk_put (cs := #[.int .i64 0, .int .i64 0, .int .i64 0, .string (⟨#[]⟩ : ByteArray)]) ?_ 0 _ rfl; (with_reducible repeat (first | refine blk_drewN ?_ _ | refine blk_drew ?_ | refine blk_alloc ?_ _)); exact BK122.out) hb); replace HB := Aside0.mk (below_step (by exact bw HB.out) hb); (try clear hb); (try clear hb2); (try clear hk); (try clear hi); obtain ⟨hcz32_0, hcz32_1, hcz32_2, hcz32_3, hfz32_0, hfz32_1, hfz32_2, hfz32_3⟩ := cs4 BK122.out; obtain ⟨hcz33_0, hcz33_1, hcz33_2, hcz33_3, hfz33_0, hfz33_1, hfz33_2, hfz33_3⟩ := cs4 BK119.out))
   ·refine bodyPost_ret (results_ct rfl _ _ gb119 23 #[.int .i64 t120, .int .i64 t121, .int .i64 (wrap64 ((wrap64 (256 * (wrap64 (bt a0 12)))) + (wrap64 (bt a0 13)))), .string (a0.extract 14 a0.size)] (0, 0) _ rfl (by (with_reducible repeat (first | refine blk_drewN ?_ _ | refine blk_drew ?_ | refine blk_alloc ?_ _)); refine blk_put (cs := #[.int .i64 t120, .int .i64 t121, .int .i64 (wrap64 ((wrap64 (256 * (wrap64 (bt a0 12)))) + (wrap64 (bt a0 13)))), .string (⟨#[]⟩ : ByteArray)]) ?_ 3 _ rfl; (with_reducible repeat (first | refine blk_drewN ?_ _ | refine blk_drew ?_ | refine blk_alloc ?_ _)); refine blk_put (cs := #[.int .i64 t120, .int .i64 t121, .int .i64 0, .string (⟨#[]⟩ : ByteArray)]) ?_ 2 _ rfl; (with_reducible repeat (first | refine blk_drewN ?_ _ | refine blk_drew ?_ | refine blk_alloc ?_ _)); refine blk_put (cs := #[.int .i64 t120, .int .i64 0, .int .i64 0, .string (⟨#[]⟩ : ByteArray)]) ?_ 1 _ rfl; (with_reducible repeat (first | refine blk_drewN ?_ _ | refine blk_drew ?_ | refine blk_alloc ?_ _)); refine blk_put (cs := #[.int .i64 0, .int .i64 0, .int .i64 0, .string (⟨#[]⟩ : ByteArray)]) ?_ 0 _ rfl; (with_reducible repeat (first | refine blk_drewN ?_ _ | refine blk_drew ?_ | refine blk_alloc ?_ _)); exact BK119.out) Tq.underlying23 rfl (by kernel_rfl)) rfl ?_
    exact ⟨by first | rfl | (simp [errW_none, errW_some] <;> rfl) | (simp [*, errW_none, errW_some] <;> rfl), by exact bw HB.out⟩
   ·refine bodyPost_ret (results_ct rfl _ _ gb119 23 #[.int .i64 0, .int .i64 0, .int .i64 0, .string (⟨#[]⟩ : ByteArray)] (0, 0) _ rfl (by (with_reducible repeat (first | refine blk_drewN ?_ _ | refine blk_drew ?_ | refine blk_alloc ?_ _)); refine blk_put (cs := #[.int .i64 0, .int .i64 0, .int .i64 0, .string (⟨#[]⟩ : ByteArray)]) ?_ 3 _ rfl; (with_reducible repeat (first | refine blk_drewN ?_ _ | refine blk_drew ?_ | refine blk_alloc ?_ _)); refine blk_put (cs := #[.int .i64 0, .int .i64 0, .int .i64 0, .string (⟨#[]⟩ : ByteArray)]) ?_ 2 _ rfl; (with_reducible repeat (first | refine blk_drewN ?_ _ | refine blk_drew ?_ | refine blk_alloc ?_ _)); refine blk_put (cs := #[.int .i64 0, .int .i64 0, .int .i64 0, .string (⟨#[]⟩ : ByteArray)]) ?_ 1 _ rfl; (with_reducible repeat (first | refine blk_drewN ?_ _ | refine blk_drew ?_ | refine blk_alloc ?_ _)); refine blk_put (cs := #[.int .i64 0, .int .i64 0, .int .i64 0, .string (⟨#[]⟩ : ByteArray)]) ?_ 0 _ rfl; (with_reducible repeat (first | refine blk_drewN ?_ _ | refine blk_drew ?_ | refine blk_alloc ?_ _)); exact BK119.out) Tq.underlying23 rfl (by kernel_rfl)) rfl ?_
    exact ⟨by first | rfl | (simp [errW_none, errW_some] <;> rfl) | (simp [*, errW_none, errW_some] <;> rfl), by exact bw HB.out⟩
end Go.Proofs.Ytnikfjfcbpeieaa.PBa
end
