/- hex.value: the table that is made once (sync.Once), and mac.Parse's contract. -/
import Derived.Test.YtnikfjfcbpeieaaQf
import Derived.Tactics
import Derived.Tactics2
import Derived.Defers
import Derived.Laws.Pointers
import Derived.Laws.LoneSync
import Derived.Laws.RangeString
import Derived.Laws.Runes
import Derived.Laws.NewBlocks
import Derived.RegionTactic
import Derived.RegionCalls
import Derived.ChangeAlike
import Derived.WalkKit
import Derived.LoopTactic
namespace Go.Proofs.Ytnikfjfcbpeieaa.EOn
open Go.RowKit Go.Proofs.Ytnikfjfcbpeieaa.EFrame Go.Proofs.Ytnikfjfcbpeieaa.QF Go.Proofs.YtnikfjfcbpeieaaW.PrintWords Go.Proofs.YtnikfjfcbpeieaaW.PrintLast Go.Proofs.YtnikfjfcbpeieaaW.PrintMore
set_option linter.unusedVariables false
set_option linter.unusedSimpArgs false

def D : ByteArray := ⟨#[48, 49, 50, 51, 52, 53, 54, 55, 56, 57, 97, 98, 99, 100, 101, 102]⟩
/-- The table behind i digits. -/
def tv : Nat → Nat → Int
  | 0, _ => 0
  | i + 1, j => if bt D i = (j : Int) then (i : Int) + 1 else tv i j
def Tb (b i : Nat) (W : World) : Prop := ∀ j, j < 256 → W.cell? ⟨b, 3 + j, none⟩ = some (.int .i64 (tv i j)) ∧ W.frozen? ⟨b, 3 + j, none⟩ = false

theorem grown_trans {w1 w2 w3 : World} {r : Option Nat} (h : w1.grownBy w2 r) (k : w2.grownBy w3 r) : w1.grownBy w3 r :=
  ⟨k.os.trans h.os, k.tape.trans h.tape, k.output.trans h.output, Nat.le_trans h.size k.size, fun i hi hr => (k.block i (Nat.lt_of_lt_of_le hi h.size) hr).trans (h.block i hi hr)⟩
theorem grown_set (w : World) (b i : Nat) (v : Value) : w.grownBy (w.setCell ⟨b, i, none⟩ v) (some b) :=
  ⟨rfl, rfl, rfl, by simp, fun k _ hk => Below.heap_setCell _ _ _ k (fun e => hk (by rw [e]))⟩

theorem D_byte (i : Nat) (h : i < 16) : 48 ≤ bt D i ∧ bt D i ≤ 102 := by
  have : ∀ i : Fin 16, 48 ≤ bt D (i.val : Nat) ∧ bt D (i.val : Nat) ≤ 102 := by decide
  exact this ⟨i, h⟩

set_option maxHeartbeats 2000000 in
set_option maxRecDepth 100000 in
theorem closure_any (b : Nat) (pl : Addr) (w : World) (hpb : ¬ b = pl.block) (hbl : b < w.heap.size) (hpl : pl.block < w.heap.size) (hps : pl = ⟨pl.block, pl.off, none⟩) (hp : w.cell? pl = some (.pointer (some ⟨b, 0, none⟩))) (hT : Tb b 0 w) :
    Calls Try.prog 86 #[.pointer (some pl)] w fun e w' => e = .returned (.tuple #[]) ∧ Tb b 16 w' ∧ w.grownBy w' (some b) ∧ (∀ i, i < 3 → w'.cell? ⟨b, i, none⟩ = w.cell? ⟨b, i, none⟩ ∧ w'.frozen? ⟨b, i, none⟩ = w.frozen? ⟨b, i, none⟩) := by
  rw [hps] at hp ⊢
  generalize pl.block = pb at hpb hpl hp
  generalize pl.off = po at hp
  clear hps
  go_enter Try.func86, Try.ntmps86
  go_wp2
  go_loopw [1] (fun i wr => ∃ (pos : Nat) (W0 : World), pos ≤ 16 ∧ wr = W0.iter D pos ∧ W0.heap.size = w.heap.size ∧ Aside0 (Tb b pos W0) ∧ Aside0 (w.grownBy W0 (some b)) ∧ Aside0 (∀ i, i < 3 → W0.cell? ⟨b, i, none⟩ = w.cell? ⟨b, i, none⟩ ∧ W0.frozen? ⟨b, i, none⟩ = w.frozen? ⟨b, i, none⟩)) (fun _ w' => 16 - w'.iterPos w.heap.size)
  case atStart => exact ⟨0, w, Nat.zero_le _, rfl, rfl, ⟨hT⟩, ⟨World.grownBy.refl _ _⟩, ⟨fun _ _ => ⟨rfl, rfl⟩⟩⟩
  case round =>
    obtain ⟨pos, W0, hpos, rfl, hsz, HT, HG, HO⟩ := hrel
    by_cases hlt : pos < 16
    · have hps : pos < D.size := hlt
      have hb := D_byte pos hlt
      have hx : ((D[pos]'hps).toNat : Int) = bt D pos := bt_at D pos hps
      have hnx : ∀ ty, (Instr.next (.pointer (some ⟨W0.heap.size, 0, none⟩)) true ty).run Try.prog (W0.iter D pos) = _ := fun ty => run_next_ascii W0 D pos ty hps (by omega)
      rw [hsz] at hnx
      have hcp : (W0.iter D (pos + 1)).cell? ⟨pb, po, none⟩ = some (.pointer (some ⟨b, 0, none⟩)) := by
        unfold World.iter
        rw [World.cell?_alloc_past _ _ _ (by rw [hsz]; exact hpl)]
        exact (World.cell?_of_block (a := ⟨pb, po, none⟩) (HG.out.block pb hpl (fun e => hpb (by injection e with e; exact e.symm)))).trans hp
      have hn : (bt D pos).toNat < 256 := by omega
      have hW0b : b < W0.heap.size := by omega
      have hc2 : (W0.iter D (pos + 1)).cell? ⟨b, 3 + (bt D pos).toNat, none⟩ = some (.int .i64 (tv pos (bt D pos).toNat)) := by
        unfold World.iter
        rw [World.cell?_alloc_past _ _ _ hW0b]
        exact (HT.out _ hn).1
      have hf2 : (W0.iter D (pos + 1)).frozen? ⟨b, 3 + (bt D pos).toNat, none⟩ = false := by
        unfold World.iter
        rw [World.frozen?_alloc_past _ _ _ hW0b]
        exact (HT.out _ hn).2
      go_wp2
      go_roundw
      case rel =>
        refine ⟨pos + 1, W0.setCell ⟨b, 3 + (bt D pos).toNat, none⟩ (.int .i64 ((pos : Int) + 1)), by omega, ?_, by simp [hsz], ⟨?_⟩, ⟨grown_trans HG.out (grown_set W0 b _ _)⟩, ⟨fun i hi => ?_⟩⟩
        · unfold World.iter
          rw [World.setCell_alloc_past _ _ _ _ hW0b]
        · intro j hj
          constructor
          · by_cases hjn : j = (bt D pos).toNat
            · subst hjn
              have e : tv (pos + 1) (bt D pos).toNat = (pos : Int) + 1 := by
                simp only [tv]
                rw [if_pos (by omega)]
              rw [e]
              exact World.cell?_setCell_same _ _ _ (HT.out _ hn).1
            · have e : tv (pos + 1) j = tv pos j := by
                simp only [tv]
                rw [if_neg (by omega)]
              rw [e, World.cell?_setCell_other _ _ _ _ (by first | (simp; done) | (simp; omega))]
              exact (HT.out j hj).1
          · rw [World.frozen?_setCell]
            exact (HT.out j hj).2
        · rw [World.cell?_setCell_other _ _ _ _ (by first | (simp; done) | (simp; omega)), World.frozen?_setCell]
          exact HO.out i hi
      case measure =>
        unfold World.iterPos
        rw [Below.heap_setCell _ _ _ _ (show w.heap.size ≠ b by omega), ← hsz, World.iter_heap, World.iter_heap]
        show 16 - (pos + 1) < 16 - pos
        omega
    · obtain rfl : pos = 16 := by omega
      have hps : ¬ 16 < D.size := by decide
      have hnx : ∀ ty, (Instr.next (.pointer (some ⟨W0.heap.size, 0, none⟩)) true ty).run Try.prog (W0.iter D 16) = _ := fun ty => run_next_end W0 D 16 ty hps
      rw [hsz] at hnx
      have hW0b : b < W0.heap.size := by omega
      go_wp2
      go_end0
      refine ⟨rfl, fun j hj => ?_, grown_trans HG.out (World.grownBy_alloc W0 _ _), fun i hi => ?_⟩
      · unfold World.iter
        rw [World.cell?_alloc_past _ _ _ hW0b, World.frozen?_alloc_past _ _ _ hW0b]
        exact HT.out j hj
      · unfold World.iter
        rw [World.cell?_alloc_past _ _ _ hW0b, World.frozen?_alloc_past _ _ _ hW0b]
        exact HO.out i hi

theorem disable (w : World) : (callFunc 93 #[]).run Try.prog w = .ok (.value (.tuple #[])) w := run_call_mark0 Try.func93 (by kernel_rfl) (by kernel_rfl) (by kernel_rfl) .disable (by kernel_rfl) w
theorem enable (w : World) : (callFunc 94 #[]).run Try.prog w = .ok (.value (.tuple #[])) w := run_call_mark0 Try.func94 (by kernel_rfl) (by kernel_rfl) (by kernel_rfl) .enable (by kernel_rfl) w
theorem acquire (a : Addr) (w : World) : (callFunc 107 #[.pointer (some a)]).run Try.prog w = .ok (.value (.tuple #[])) w := run_call_marked Try.func107 (by kernel_rfl) (by kernel_rfl) (by kernel_rfl) .acquire (by kernel_rfl) a w
theorem releaseMerge (a : Addr) (w : World) : (callFunc 92 #[.pointer (some a)]).run Try.prog w = .ok (.value (.tuple #[])) w := run_call_marked Try.func92 (by kernel_rfl) (by kernel_rfl) (by kernel_rfl) .releaseMerge (by kernel_rfl) a w

set_option maxRecDepth 100000 in
theorem store_deferred (a : Addr) (x : Value) (u : FrameMode) (w : World) (hc : w.cell? a = some x) (hz : w.frozen? a = false) :
    CallsD Try.prog 124 #[.pointer (some a), .bool true] u w fun e u' w' => u' = u ∧ (e = .returned (.tuple #[]) ∧ w' = w.drew.setCell a (.int .u32 1)) := by
  have hc' : w.drew.cell? a = some x := by go_simp
  have hz' : w.drew.frozen? a = false := by go_simp
  have hst := run_call_store (P := Try.prog) Try.func129 (by kernel_rfl) (by kernel_rfl) (by kernel_rfl) (by kernel_rfl) (k := .u32) (y := 1) hc' hz'
  go_enter_d Try.func124, Try.ntmps124
  go_wp2
  go_region_calls
  all_goals (go_end0; exact ⟨rfl, rfl⟩)

set_option maxRecDepth 100000 in
theorem unlock_deferred (a : Addr) (u : FrameMode) (w : World) (hc : w.cell? a = some (.int .i32 1)) (hz : w.frozen? a = false) :
    CallsD Try.prog 106 #[.pointer (some a)] u w fun e u' w' => u' = u ∧ (e = .returned (.tuple #[]) ∧ w' = w.setCell a (.int .i32 0)) := by
  have hd := disable
  have he := enable
  have hr := releaseMerge
  have hadd := run_call_add (P := Try.prog) Try.func127 (by kernel_rfl) (by kernel_rfl) (by kernel_rfl) .i32 (by kernel_rfl) (y := -1) (s := 0) hc hz (by simp [go_sem]; rfl)
  have hcv := run_convert_to_unsafe (P := Try.prog) (src := 151) (dst := 124) Try.underlying151 Try.underlying124 (by kernel_rfl) hc
  go_enter_d Try.func106, Try.ntmps106
  go_wp2
  go_end0
  go_wp2
  go_end0
  exact ⟨rfl, rfl⟩

set_option maxRecDepth 100000 in
theorem lock_free (a : Addr) (w : World) (hc : w.cell? a = some (.int .i32 0)) (hz : w.frozen? a = false) :
    Calls Try.prog 105 #[.pointer (some a)] w fun e w' => e = .returned (.tuple #[]) ∧ w' = w.setCell a (.int .i32 1) := by
  have hd := disable
  have he := enable
  have ha := acquire
  have hcas := run_call_cas_hit (P := Try.prog) Try.func125 (by kernel_rfl) (by kernel_rfl) (by kernel_rfl) .i32 (by kernel_rfl) (y := 1) hc hz
  have hc' : (w.setCell a (.int .i32 1)).cell? a = some (.int .i32 1) := World.cell?_setCell_same w a _ hc
  have hcv := run_convert_to_unsafe (P := Try.prog) (src := 151) (dst := 124) Try.underlying151 Try.underlying124 (by kernel_rfl) hc'
  go_enter Try.func105, Try.ntmps105
  go_wp2
  first | go_end0 | (simp only [Exit.inBlock, Exit.then]; refine bodyPost_ret (results_none rfl _ _ _) rfl ?_) | refine bodyPost_ret (results_none rfl _ _ _) rfl ?_
  go_wp2
  go_end0
  exact ⟨rfl, rfl⟩

theorem bool_load (a : Addr) (x : Int) (w : World) (h : w.cell? a = some (.int .u32 x)) :
    Calls Try.prog 112 #[.pointer (some a)] w fun e w' => e = .returned (.bool (x != 0)) ∧ w' = w := by
  have hl := run_call_load (P := Try.prog) Try.func116 (by kernel_rfl) (by kernel_rfl) (by kernel_rfl) .u32 (by kernel_rfl) h
  go_enter Try.func112, Try.ntmps112
  go_wp2
  go_ret
  exact ⟨rfl, rfl⟩

theorem Tb.set {b i : Nat} {W : World} (h : Tb b i W) (k : Nat) (hk : k < 3) (v : Value) : Tb b i (W.setCell ⟨b, k, none⟩ v) := by
  intro j hj
  rw [World.cell?_setCell_other _ _ _ _ (by first | (simp; done) | (simp; omega)), World.frozen?_setCell]
  exact h j hj
theorem Tb.drew {b i : Nat} {W : World} (h : Tb b i W) : Tb b i W.drew := h
theorem grown_drew (w : World) (r : Option Nat) : w.grownBy w.drew r := ⟨rfl, rfl, rfl, Nat.le_refl _, fun _ _ _ => rfl⟩

set_option maxRecDepth 100000 in
set_option maxHeartbeats 2000000 in
theorem slow_any (b pb po : Nat) (w : World) (hpb : ¬ b = pb) (hbl : b < w.heap.size) (hpl : pb < w.heap.size) (hp : w.cell? ⟨pb, po, none⟩ = some (.pointer (some ⟨b, 0, none⟩))) (hT : Tb b 0 w)
    (h0 : w.cell? ⟨b, 0, none⟩ = some (.int .u32 0)) (h1 : w.cell? ⟨b, 1, none⟩ = some (.int .i32 0)) (f0 : w.frozen? ⟨b, 0, none⟩ = false) (f1 : w.frozen? ⟨b, 1, none⟩ = false) :
    Calls Try.prog 113 #[.pointer (some ⟨b, 0, none⟩), .func (.func 86) #[] #[.pointer (some ⟨pb, po, none⟩)]] w fun e w' => e = .returned (.tuple #[]) ∧ Tb b 16 w' ∧ w.grownBy w' (some b) ∧ w'.cell? ⟨b, 0, none⟩ = some (.int .u32 1) := by
  have hc0 : (w.setCell ⟨b, 1, none⟩ (.int .i32 1)).cell? ⟨b, 0, none⟩ = some (.int .u32 0) := (World.cell?_setCell_other _ ⟨b, 1, none⟩ ⟨b, 0, none⟩ _ (by simp)).trans h0
  have hp1 : (w.setCell ⟨b, 1, none⟩ (.int .i32 1)).cell? ⟨pb, po, none⟩ = some (.pointer (some ⟨b, 0, none⟩)) := (World.cell?_setCell_other _ ⟨b, 1, none⟩ ⟨pb, po, none⟩ _ (fun h => hpb (congrArg Addr.block h))).trans hp
  have hC := closure_any b ⟨pb, po, none⟩ (w.setCell ⟨b, 1, none⟩ (.int .i32 1)) hpb (by simpa using hbl) (by simpa using hpl) rfl hp1 (hT.set 1 (by decide) _)
  have hnot : ∀ (x : Bool) (w : World), (Op.unary .not (.bool x)).run Try.prog w = .ok (.bool (!x)) w := fun _ _ => rfl
  go_enter_defers Try.func113, Try.ntmps113
  go_wp2_with (first
    | (go_at_call 105; refine (lock_free ⟨b, 1, none⟩ _ (by go_simp) (by go_simp)).mono ?_; rintro e w' ⟨rfl, rfl⟩)
    | (go_at_call 112; refine (bool_load ⟨b, 0, none⟩ 0 _ hc0).mono ?_; rintro e w' ⟨rfl, rfl⟩))
  refine hC.mono ?_
  rintro e w2 ⟨rfl, hT2, hG2, hO2⟩
  go_wp2
  have g0 : w2.cell? ⟨b, 0, none⟩ = some (.int .u32 0) := (hO2 0 (by decide)).1.trans hc0
  have g1 : w2.cell? ⟨b, 1, none⟩ = some (.int .i32 1) := (hO2 1 (by decide)).1.trans (World.cell?_setCell_same w _ _ h1)
  have z0 : w2.frozen? ⟨b, 0, none⟩ = false := (hO2 0 (by decide)).2.trans ((World.frozen?_setCell _ _ _ _).trans f0)
  have z1 : w2.frozen? ⟨b, 1, none⟩ = false := (hO2 1 (by decide)).2.trans ((World.frozen?_setCell _ _ _ _).trans f1)
  refine leaves_cons (f := 124) (args := #[.pointer (some ⟨b, 0, none⟩), .bool true]) (by simp) (by simp [go_sem]) ?_
  refine (store_deferred ⟨b, 0, none⟩ (.int .u32 0) .returning _ g0 z0).mono ?_
  rintro e u' w'' ⟨rfl, rfl, rfl⟩
  refine leaves_cons (f := 106) (args := #[.pointer (some ⟨b, 1, none⟩)]) (by simp [settle]) (by simp [go_sem]) ?_
  refine (unlock_deferred ⟨b, 1, none⟩ _ (w2.drew.setCell ⟨b, 0, none⟩ (.int .u32 1)) ((World.cell?_setCell_other _ ⟨b, 0, none⟩ ⟨b, 1, none⟩ _ (by simp)).trans g1) ((World.frozen?_setCell _ _ _ _).trans z1)).mono ?_
  rintro e u' w'' ⟨rfl, rfl, rfl⟩
  simp [Leaves, settle, results, Try.results113]
  refine ⟨((hT2.drew).set 0 (by decide) _).set 1 (by decide) _, grown_trans (grown_trans (grown_trans (grown_trans (grown_set w b 1 _) hG2) (grown_drew _ _)) (grown_set _ b 0 _)) (grown_set _ b 1 _), ?_⟩
  rw [World.cell?_setCell_other _ ⟨b, 1, none⟩ ⟨b, 0, none⟩ _ (by simp)]
  exact World.cell?_setCell_same w2.drew _ _ g0

/-- The word of Once and the table, made or not. -/
def Hx (b : Nat) (done : Bool) (W : World) : Prop := (if done = true then W.cell? ⟨b, 0, none⟩ = some (.int .u32 1) ∧ Tb b 16 W else W.cell? ⟨b, 0, none⟩ = some (.int .u32 0) ∧ W.cell? ⟨b, 1, none⟩ = some (.int .i32 0) ∧ W.frozen? ⟨b, 0, none⟩ = false ∧ W.frozen? ⟨b, 1, none⟩ = false ∧ Tb b 0 W)

set_option maxRecDepth 100000 in
set_option maxHeartbeats 2000000 in
theorem do_any (b pb po : Nat) (done : Bool) (w : World) (hpb : ¬ b = pb) (hbl : b < w.heap.size) (hpl : pb < w.heap.size) (hp : w.cell? ⟨pb, po, none⟩ = some (.pointer (some ⟨b, 0, none⟩))) (hH : Hx b done w) :
    Calls Try.prog 85 #[.pointer (some ⟨b, 0, none⟩), .func (.func 86) #[] #[.pointer (some ⟨pb, po, none⟩)]] w fun e w' => e = .returned (.tuple #[]) ∧ Hx b true w' ∧ w.grownBy w' (some b) := by
  have hnot : ∀ (x : Bool) (w : World), (Op.unary .not (.bool x)).run Try.prog w = .ok (.bool (!x)) w := fun _ _ => rfl
  cases done
  · obtain ⟨h0, h1, f0, f1, hT⟩ := hH
    have HS := slow_any b pb po w hpb hbl hpl hp hT h0 h1 f0 f1
    go_enter Try.func85, Try.ntmps85
    go_wp2_with (first
      | (go_at_call 112; refine (bool_load ⟨b, 0, none⟩ 0 _ h0).mono ?_; rintro e w' ⟨rfl, rfl⟩)
      | (go_at_call 113; refine HS.mono ?_; rintro e w' ⟨rfl, hT2, hG2, h2⟩))
    go_end0
    exact ⟨rfl, ⟨h2, hT2⟩, hG2⟩
  · obtain ⟨h0, hT⟩ := hH
    go_enter Try.func85, Try.ntmps85
    go_wp2_with (go_at_call 112; refine (bool_load ⟨b, 0, none⟩ 1 _ h0).mono ?_; rintro e w' ⟨rfl, rfl⟩)
    go_end0
    exact ⟨rfl, ⟨h0, hT⟩, World.grownBy.refl _ _⟩
end Go.Proofs.Ytnikfjfcbpeieaa.EOn
