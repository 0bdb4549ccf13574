/- The contract of lru.Trim (by hand), in the form that the printed texts of the laws ask; of at most 1000 numbers of 64 bits. -/
import Derived.Test.YtnkkedkkjmehpaaBk
import Derived.RegionIn
import Derived.Laws.Slices
import Derived.Test.YtnkkedkkjmehpaaELru
namespace Go.Proofs.Ytnkkedkkjmehpaa.ELru
open Go.RowKit Go.Shelf Go.Proofs.YtnkkedkkjmehpaaW.PrintWords Go.Proofs.YtnkkedkkjmehpaaW.PrintLast Go.Proofs.YtnkkedkkjmehpaaW.PrintMore
set_option linter.unusedVariables false
set_option linter.unusedSimpArgs false
attribute [local go_sem] Oper.semAt_some max2_int min2_int

theorem trim_no (A0 : Option Addr) (c0 : Nat) (l0 : List Int) (a1 : Int) (w : World) (hC : Kd.C (Kd.int .i64) w A0 l0.length l0) (hc : l0.length ≤ c0) (hl : l0.length ≤ 1000) (hw : ∀ x ∈ l0, in64B x = true) (hno : ¬ (rightB l0 = true ∧ 0 ≤ a1)) :
    Calls Try.prog 37 #[.slice A0 l0.length c0, .int .i64 a1] w fun e w' => e = .returned (.tuple #[.slice none 0 0, .slice none 0 0, .int .i64 1]) ∧ Below w.heap.size w w' := by
  have hR := fun W hW => right_any A0 c0 l0 W hW hc hl hw
  cases hr : rightB l0 with
  | true =>
    rw [hr] at hR
    have hneg : decide (a1 < 0) = true := by
      rw [hr] at hno
      simp at hno
      simpa using hno
    go_enter Try.func37, Try.ntmps37
    go_wp2_with (go_at_call 13; refine (hR _ hC).mono ?_; rintro e w1 ⟨rfl, hb⟩)
    go_ret3
    exact ⟨rfl, hb⟩
  | false =>
    rw [hr] at hR
    go_enter Try.func37, Try.ntmps37
    go_wp2_with (go_at_call 13; refine (hR _ hC).mono ?_; rintro e w1 ⟨rfl, hb⟩)
    go_ret3
    exact ⟨rfl, hb⟩

theorem cut3 (A : Option Addr) (len cap m : Nat) (h : m ≤ len) (hc : len ≤ cap) (W : World) :
    (Instr.slice 22 (.slice A len cap) none (some (.int .i64 (m : Int))) (some (.int .i64 (m : Int)))).run Try.prog W = .ok (.slice A m m) W := by
  have h22 : Try.prog.underlying 22 = some (.slice (Try.prog.elem 22)) := Try.underlying22.trans (by kernel_rfl)
  have he : Try.prog.elem 22 = 3 := by kernel_rfl
  rw [run_slice_hm W 22 A len cap h22 .i64 .i64 m m (by omega) (by omega) (by omega), he, Try.sizeOf3]
  simp only [Result.andThen, sliced, Int.toNat_natCast, Nat.sub_zero, Nat.zero_mul]
  split
  · rfl
  · cases A <;> simp [Addr.add]

set_option maxRecDepth 100000 in
set_option maxHeartbeats 2000000 in
theorem trim_yes (A0 : Option Addr) (c0 : Nat) (l0 : List Int) (a1 : Int) (w : World) (hC : Kd.C (Kd.int .i64) w A0 l0.length l0) (hlc : l0.length ≤ c0) (hl : l0.length ≤ 1000) (hw : ∀ x ∈ l0, in64B x = true) (hr : rightB l0 = true) (h0 : 0 ≤ a1) (m : Nat) (hm : m = min a1.toNat l0.length) :
    Calls Try.prog 37 #[.slice A0 l0.length c0, .int .i64 a1] w fun e w' => ∃ v1_ : Value, e = .returned (.tuple #[.slice A0 m m, v1_, .int .i64 0]) ∧ w'.ownsRow w.heap.size 3 1 v1_ (l0.length - m) ((bk l0 (l0.length - m)).map (Value.int .i64)) ∧ Below w.heap.size w w' := by
  have hR := fun W hW => right_any A0 c0 l0 W hW hlc hl hw
  rw [hr] at hR
  obtain ⟨i0, hi, hz0, hz1, hz2⟩ := info_parts info3
  refine (callsIn_wide (n := 6)).1 ?_
  have hro : Fence.wide.round = none := rfl
  refine callsIn_of_wp_marks Try.func37 rfl trivial ?_ hro
  simp only [Try.ntmps37, List.size_toArray, List.length_cons, List.length_nil, Nat.reduceAdd, Nat.reduceSub, Array.replicate_succ, Array.replicate_zero, List.push_toArray, List.append_toArray, List.nil_append, List.cons_append]
  have hnn : decide (a1 < 0) = false := decide_eq_false (by omega)
  have hmn : min a1 (l0.length : Int) = (m : Int) := by omega
  have hml : m ≤ l0.length := by omega
  have hsub : (l0.length : Int) - (m : Int) = ((l0.length - m : Nat) : Int) := by omega
  clear hm
  have t13 : Fence.wide.fn 13 := trivial
  have t55 : Fence.wide.fn 55 := trivial
  gi_wp2_with (first
    | (gi_at_call 13; refine (callsIn_wide.2 (hR _ hC)).mono ?_; rintro e w1 ⟨rfl, hb⟩)
    | (gi_at_call 55; refine (back_in Fence.wide _ t55 hro _ _ _ _ _).mono ?_; rintro e w' ⟨rfl, rfl⟩))
  have bG := Boxed.new w1 22 (.slice none 0 0)
  have bO := Boxed.new (w1.alloc (.cells #[.slice none 0 0] 22)) 74 (.slice A0 l0.length c0)
  have bN := Boxed.new ((w1.alloc (.cells #[.slice none 0 0] 22)).alloc (.cells #[.slice A0 l0.length c0] 74)) 3 (.int .i64 ((l0.length - m : Nat) : Int))
  simp only [World.size_alloc] at bO bN
  have hB0 : Below w.heap.size w (((w1.alloc (.cells #[.slice none 0 0] 22)).alloc (.cells #[.slice A0 l0.length c0] 74)).alloc (.cells #[.int .i64 ((l0.length - m : Nat) : Int)] 3)) :=
    ((hb.alloc hb.size _).alloc (by have := hb.size; simp; omega) _).alloc (by have := hb.size; simp; omega) _
  have hs1 := hb.size
  refine wpIn_rangeFunc_ownG hro (by decide) (gf := 66) (lb := #[.pointer (some ⟨w1.heap.size + 1 + 1, 0, none⟩), .pointer (some ⟨w1.heap.size + 1, 0, none⟩)]) rfl trivial (enters_of Try.func66 (by kernel_rfl) rfl)
    (back_stops Fence.wide 5 trivial hro (by omega) (w1.heap.size + 1 + 1) (w1.heap.size + 1) w.heap.size A0 c0 (l0.length - m) l0 w _ rfl hB0 hC (by omega) hl bN.cell (by simp) (bO.alloc _)) kpB_t (kpB_b (by simp; omega) (by simp)) (Below.refl _ _) (fun _ => rfl)
    (fun pre W => (∃ v, Boxed W w1.heap.size 22 v ∧ W.ownsRow w.heap.size 3 1 v pre.length (pre.map (Value.int .i64)) ∧ True) ∧ Below w.heap.size w W)
    (fun _ _ _ => False)
    (OwnFrom.and (Own.from (holdsRow_own w.heap.size w1.heap.size 22 3 1 (fun pre : List Int => pre.length) (fun pre : List Int => pre.map (Value.int .i64)) (fun (pre : List Int) v => True)) _) (ownFrom_below (Nat.le_refl _) (by simp; omega)))
    (fun _ _ _ _ _ hs _ _ => hs)
    ⟨⟨_, (bG.alloc _).alloc _, World.ownsRow_nil _ _ _ _, trivial⟩, hB0⟩
    (fun x => { tmps := #[.slice A0 l0.length c0, .int .i64 m, undef, undef, .slice none 0 0, .slice none 0 0, .int .i64 0, .pointer (some ⟨w1.heap.size, 0, none⟩), .int .i64 x, .slice A0 l0.length c0, .bool true, .bool false, .bool false, .int .i64 a1, .bool false, .bool false, .int .i64 a1, .slice A0 l0.length c0, .int .i64 l0.length, .int .i64 m, .slice A0 l0.length c0, .slice A0 l0.length c0, .int .i64 l0.length, .int .i64 m, .int .i64 ((l0.length - m : Nat) : Int), .func (.func 66) #[] #[.pointer (some ⟨w1.heap.size + 1 + 1, 0, none⟩), .pointer (some ⟨w1.heap.size + 1, 0, none⟩)], .int .i64 x, undef, undef, undef, undef, undef, undef, undef, undef, undef], defers := [] }) ?assign ?body ?done ?stop
  case assign =>
    intro l x W K hK
    gi_wp2
    exact hK
  case body =>
    rintro l pre x W ⟨⟨v, hv, hrow, _⟩, hB⟩ hlt
    have hc := hv.cell
    gi_wp2_with (gi_at_builtin; refine wpListIn_append_own _ rfl _ _ 22 rfl w.heap.size 3 i0 (.int .i64 0) 1 8 Try.underlying22 hi hz0 hz1 hz2 rfl (by decide) _ _ _ rfl (hrow.alloc _) ⟨W.heap.size, 0, none⟩ 1 1 [.int .i64 x] rfl rfl (cell_one_new _ _ _) (by simp [Value.oneCell']) (by unfold maxLen; omega) (by omega) (by have := hB.size; simp; omega) ?_; intro v' w2 hown' hgrow _; obtain ⟨g', cap', rfl⟩ := ownsRow_succ hown'; obtain ⟨hv1, hv2, hr2, hk2, hb2⟩ := hv.appended (by decide) hrow hB.size hs1 hown' hgrow; have hc1 := hv1.cell; have hf1 := hv1.frozen)
    refine ⟨hk2.from _, ⟨hb2, fun u hu => ?_⟩, ⟨_, hv2, by simpa using hr2, trivial⟩, hB.trans hb2⟩
    exact ((hu.alloc _).kept hgrow (hu.not_row (by decide) hrow)).kept (grownBy_setCell' _ _ _) (by simp)
  case done =>
    rintro D ys W hD rfl ⟨⟨v, hv, hrow, _⟩, hB⟩ hK
    have hc := hv.cell
    have hsl := fun W => cut3 A0 l0.length c0 m hml hlc W
    gi_wp2
    gi_region
    all_goals gi_wp2
    refine ⟨by simp, .inl ⟨_, _, rfl, run_takeDeferred (w := W.drew) hK, ?_⟩⟩
    have hbl := bk_length l0 (l0.length - m) (by omega)
    refine ⟨_, results_tmp3 rfl _ _ _, v, rfl, ?_, ?_⟩
    · have := ownsRow_putObj (W := W.drew) hrow.drew (.deferred none) hK rfl
      rw [hbl] at this
      exact this
    · exact hB.drew.trans (belowK_b (w := w) (Nat.le_refl _) W.drew D _ _ (by simp at hD; omega) hK rfl rfl)
  case stop =>
    rintro D c pre W _ _ h _
    exact h.elim

def lru_Trim.f (l0 : List Int) (a1 : Int) : Option (List Int × List Int × Int) :=
  if l0.length ≤ 1000 ∧ l0.all in64B = true then (if rightB l0 = true ∧ 0 ≤ a1 then some (l0.take a1.toNat, (l0.drop a1.toNat).reverse, 0) else some ([], [], 1)) else none

theorem bk_drop (l : List Int) (n m : Nat) (h : m = min n l.length) : bk l (l.length - m) = (l.drop n).reverse := by
  unfold bk
  rw [List.take_reverse]
  congr 1
  rcases Nat.le_total n l.length with h1 | h1
  · congr 1
    omega
  · rw [List.drop_of_length_le (by omega), List.drop_of_length_le h1]

theorem lru_Trim.calls (P0_ : Nat → Prop) (A0 : Option Addr) (c0 : Nat) (l0 : List Int) (a1 : Int) (r1 r2 : List Int) (r3 : Int) (w : World) (hs0 : Kd.V (Kd.int .i64) 3 w w.heap.size (fun k_ => P0_ k_) (.slice A0 l0.length c0) l0) (h : lru_Trim.f l0 a1 = some (r1, r2, r3)) :
    Calls Try.prog 37 #[.slice A0 l0.length c0, .int .i64 a1] w fun e w' => ∃ v0_ v1_ : Value, e = .returned (.tuple #[v0_, v1_, .int .i64 r3]) ∧ Kd.V (Kd.int .i64) 3 w' w.heap.size (fun k_ => (P0_ k_ ∨ w.heap.size ≤ k_) ∧ some k_ ≠ (v1_ : Value).ownBlock) v0_ r1 ∧ Kd.R (Kd.int .i64) 3 w' w.heap.size (fun k_ => (w.heap.size ≤ k_)) v1_ r2 ∧ Below w.heap.size w w' := by
  obtain ⟨_, hc, hC⟩ := Kd.V_reads' hs0
  unfold lru_Trim.f at h
  split at h
  · rename_i hh
    have hw := List.all_eq_true.1 hh.2
    split at h
    · rename_i hy
      obtain ⟨rfl, rfl, rfl⟩ : r1 = l0.take a1.toNat ∧ r2 = (l0.drop a1.toNat).reverse ∧ r3 = 0 := by
        have := Option.some.inj h
        simp only [Prod.mk.injEq] at this
        exact ⟨this.1.symm, this.2.1.symm, this.2.2.symm⟩
      refine (trim_yes A0 c0 l0 a1 w hC hc hh.1 hw hy.1 hy.2 (min a1.toNat l0.length) rfl).mono ?_
      rintro e w' ⟨v, rfl, hown, hb⟩
      have hlen : (l0.take a1.toNat).length = min a1.toNat l0.length := by simp
      rw [bk_drop l0 a1.toNat _ rfl] at hown
      have hl2 : l0.length - min a1.toNat l0.length = ((l0.drop a1.toNat).reverse).length := by simp; omega
      rw [hl2] at hown
      have hblk : ∀ k, v.ownBlock = some k → w.heap.size ≤ k := by
        intro k hk
        rcases hown.2 with ⟨rfl, _⟩ | ⟨g, cap, cur, rfl, hg, _⟩
        · simp [Value.ownBlock] at hk
        · simp [Value.ownBlock] at hk; omega
      refine ⟨_, v, rfl, ?_, Kd.R_of_own hown hblk, hb⟩
      rw [← hlen]
      have h1 := Kd.F_take (m := min a1.toNat l0.length) (Kd.F_old (Kd.V_F hs0) hb) (by omega)
      rw [← List.take_eq_take_min] at h1
      exact Kd.V_mk (Nat.le_refl _) (Kd.F_mono h1 (fun k hk => ⟨.inl hk.1, fun e => by have := hblk k e.symm; have := hk.2; omega⟩))
    · rename_i hn
      obtain ⟨rfl, rfl, rfl⟩ : r1 = [] ∧ r2 = [] ∧ r3 = 1 := by
        have := Option.some.inj h
        simp only [Prod.mk.injEq] at this
        exact ⟨this.1.symm, this.2.1.symm, this.2.2.symm⟩
      refine (trim_no A0 c0 l0 a1 w hC hc hh.1 hw hn).mono ?_
      rintro e w' ⟨rfl, hb⟩
      exact ⟨_, _, rfl, Kd.V_nil _ _ _ _ _, Kd.R_nil _ _ _ _ _, hb⟩
  · cases h
end Go.Proofs.Ytnkkedkkjmehpaa.ELru
