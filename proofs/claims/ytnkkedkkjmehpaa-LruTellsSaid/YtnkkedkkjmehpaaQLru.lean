/- Plain laws of what the printed functions of lru answer (of at most 1000 numbers of 64 bits). -/
import Derived.Test.YtnkkedkkjmehpaaPLrux1
namespace Go.Proofs.Ytnkkedkkjmehpaa.QLru
open Go.RowKit Go.Proofs.Ytnkkedkkjmehpaa.ELru Go.Proofs.Ytnkkedkkjmehpaa.PLru Go.Proofs.YtnkkedkkjmehpaaW.PrintWords Go.Proofs.YtnkkedkkjmehpaaW.PrintLast
set_option linter.unusedVariables false
set_option linter.unusedSimpArgs false

def wo (l : List Int) (a : Int) : List Int := l.filter (fun x => !(x == a))
def Ok (l : List Int) : Prop := l.length ≤ 1000 ∧ l.all in64B = true

theorem rightB_iff {l : List Int} : rightB l = true ↔ (∀ x ∈ l, 0 ≤ x) ∧ l.Nodup ∧ l.length ≤ 64 := by
  unfold rightB
  simp [and_assoc]
theorem wo_mem {l : List Int} {a x : Int} : x ∈ wo l a ↔ x ∈ l ∧ x ≠ a := by simp [wo]
theorem wo_le (l : List Int) (a : Int) : (wo l a).length ≤ l.length := List.length_filter_le _ _
theorem wo_sub (l : List Int) (a : Int) : (wo l a).Sublist l := List.filter_sublist
theorem wo_notmem {l : List Int} {a : Int} (h : a ∉ l) : wo l a = l := by
  unfold wo
  rw [List.filter_eq_self]
  intro x hx
  have : x ≠ a := fun e => h (e ▸ hx)
  simpa using this
theorem wo_wo (l : List Int) (a : Int) : wo (wo l a) a = wo l a := wo_notmem (fun h => (wo_mem.1 h).2 rfl)
theorem wo_eq_iff {l : List Int} {a : Int} : (wo l a).length = l.length ↔ a ∉ l := by
  constructor
  · intro h ha
    have := (wo_sub l a).eq_of_length h
    rw [← this] at ha
    exact (wo_mem.1 ha).2 rfl
  · intro h
    rw [wo_notmem h]
theorem wo_len {l : List Int} {a : Int} (hn : l.Nodup) (h : a ∈ l) : (wo l a).length + 1 = l.length := by
  have e : wo l a = l.erase a := (hn.erase_eq_filter a).symm
  rw [e, List.length_erase_of_mem h]
  have := List.length_pos_of_mem h
  omega
theorem Ok.wo {l : List Int} (h : Ok l) (a : Int) : Ok (wo l a) := by
  refine ⟨Nat.le_trans (wo_le l a) h.1, ?_⟩
  rw [List.all_eq_true]
  exact fun x hx => List.all_eq_true.1 h.2 x (wo_mem.1 hx).1
theorem Ok.take {l : List Int} (h : l.all in64B = true) (n : Nat) (hn : n ≤ 1000) : Ok (l.take n) := by
  refine ⟨by rw [List.length_take]; omega, ?_⟩
  rw [List.all_eq_true]
  exact fun x hx => List.all_eq_true.1 h x (List.mem_of_mem_take hx)
theorem Ok.cons {l : List Int} (h : Ok l) (hl : l.length ≤ 999) {a : Int} (ha : in64B a = true) : Ok (a :: l) := by
  refine ⟨by simp; omega, ?_⟩
  simp [ha, h.2]
theorem in64_of_wf {x : Int} (h : (Lit.int .i64 x).wf = true) : in64B x = true := by
  simp [Lit.wf, IntKind.min, IntKind.max, IntKind.signed, IntKind.bits] at h
  simp [in64B]
  omega
theorem right_wo {l : List Int} (h : rightB l = true) (a : Int) : rightB (wo l a) = true := by
  rw [rightB_iff] at h ⊢
  exact ⟨fun x hx => h.1 x (wo_mem.1 hx).1, h.2.1.sublist (wo_sub l a), Nat.le_trans (wo_le l a) h.2.2⟩

theorem few_eq (l : List Int) : footwaylaw06_few.f l = some (l.take 70) := by
  unfold footwaylaw06_few.f
  have h : (mn (l.length : Int) 70).toNat = min 70 l.length := by unfold mn; split <;> omega
  rw [if_pos (by unfold mn; split <;> omega), if_pos (by unfold mn; split <;> omega), h, ← List.take_eq_take_min]
theorem Right_eq {l : List Int} (h : Ok l) : lru_Right.f l = some (rightB l) := if_pos h
theorem without_eq {l : List Int} (h : Ok l) (a : Int) : lru_order_int_without.f l a = some (wo l a) := if_pos h.1
theorem use_eq {l : List Int} (h : Ok l) (a : Int) : lru_order_int_use.f l a = some (a :: wo l a) := by
  unfold lru_order_int_use.f
  rw [without_eq h]
  simp only [Option.bind_some]
  rw [if_pos (by have := (h.wo a).1; simp; omega)]
  rfl
theorem Use_eq {l : List Int} (h : Ok l) (a : Int) (k : Nat) (hk : 1 ≤ k) :
    lru_Use.f k l a = some (if rightB l = true ∧ 0 ≤ a then (if (wo l a).length ≤ 63 then (a :: wo l a, 0) else ([], 5)) else ([], 1)) := by
  obtain ⟨k, rfl⟩ : ∃ m, k = m + 1 := ⟨k - 1, by omega⟩
  unfold lru_Use.f
  rw [Right_eq h]
  simp only [Option.bind_some]
  by_cases hr : rightB l = true
  · rw [if_pos hr]
    by_cases ha : 0 ≤ a
    · simp only [lru_Use.j0]
      rw [if_neg (by simpa using ha), use_eq h]
      simp only [Option.bind_some]
      rw [if_pos (show rightB l = true ∧ 0 ≤ a from ⟨hr, ha⟩)]
      by_cases hl : (wo l a).length ≤ 63
      · rw [if_neg (show ¬ (((a :: wo l a).length : Int) > 64) by simp only [List.length_cons]; omega), if_pos hl]
      · rw [if_pos (show (((a :: wo l a).length : Int) > 64) by simp only [List.length_cons]; omega), if_neg hl]
    · simp only [lru_Use.j0]
      rw [if_pos (decide_eq_true (by omega)), if_neg (show ¬ (rightB l = true ∧ 0 ≤ a) from fun h => ha h.2)]
  · rw [if_neg hr]
    simp only [lru_Use.j0]
    rw [if_pos trivial, if_neg (show ¬ (rightB l = true ∧ 0 ≤ a) from fun h => hr h.1)]
theorem Drop_eq {l : List Int} (h : Ok l) (a : Int) (k : Nat) (hk : 1 ≤ k) :
    lru_Drop.f k l a = some (if rightB l = true ∧ 0 ≤ a then (if a ∈ l then (wo l a, 0) else ([], 4)) else ([], 1)) := by
  obtain ⟨k, rfl⟩ : ∃ m, k = m + 1 := ⟨k - 1, by omega⟩
  unfold lru_Drop.f
  rw [Right_eq h]
  simp only [Option.bind_some]
  by_cases hr : rightB l = true
  · rw [if_pos hr]
    by_cases ha : 0 ≤ a
    · simp only [lru_Drop.j0]
      rw [if_neg (by simpa using ha), without_eq h]
      simp only [Option.bind_some]
      rw [if_pos (show rightB l = true ∧ 0 ≤ a from ⟨hr, ha⟩)]
      by_cases hl : a ∈ l
      · have hne : ¬ ((wo l a).length : Int) = (l.length : Int) := fun e => (wo_eq_iff.1 (by omega)) hl
        rw [if_neg hne, if_pos hl]
      · have he : ((wo l a).length : Int) = (l.length : Int) := by have := wo_eq_iff.2 hl; omega
        rw [if_pos he, if_neg hl]
    · simp only [lru_Drop.j0]
      rw [if_pos (decide_eq_true (by omega)), if_neg (show ¬ (rightB l = true ∧ 0 ≤ a) from fun h => ha h.2)]
  · rw [if_neg hr]
    simp only [lru_Drop.j0]
    rw [if_pos trivial, if_neg (show ¬ (rightB l = true ∧ 0 ≤ a) from fun h => hr h.1)]

theorem same_go (a b : List Int) (hl : a.length = b.length) (hb : a.length ≤ 1000000) (d : Nat) : ∀ (k i : Nat), i + d = a.length → d < k → footwayref06_Same.l0 k a b (a.length : Int) (i : Int) = some (decide (a.drop i = b.drop i)) := by
  induction d with
  | zero =>
    intro k i hi hk
    obtain ⟨k, rfl⟩ : ∃ m, k = m + 1 := ⟨k - 1, by omega⟩
    simp only [footwayref06_Same.l0]
    rw [if_neg (by omega), List.drop_of_length_le (by omega), List.drop_of_length_le (by omega)]
    simp
  | succ d ih =>
    intro k i hi hk
    obtain ⟨k, rfl⟩ : ∃ m, k = m + 1 := ⟨k - 1, by omega⟩
    simp only [footwayref06_Same.l0]
    have hia : i < a.length := by omega
    have hib : i < b.length := by omega
    rw [if_pos (by omega), if_pos (by omega), if_pos (by omega), if_pos (by omega)]
    have ea : rd a (i : Int) = a[i] := by simp [rd, hia]
    have eb : rd b (i : Int) = b[i] := by simp [rd, hib]
    have ew : wrap64 ((i : Int) + 1) = ((i + 1 : Nat) : Int) := by unfold wrap64; omega
    rw [ea, eb, ew, ih k (i + 1) (by omega) (by omega), List.drop_eq_getElem_cons hia, List.drop_eq_getElem_cons hib]
    by_cases he : a[i] = b[i]
    · rw [if_pos he]; simp only [List.cons.injEq, he, true_and]
    · rw [if_neg he]; simp only [List.cons.injEq, he, false_and, decide_false]
theorem Same_eq (a b : List Int) (ha : a.length ≤ 1000000) (k : Nat) (hk : a.length < k) : footwayref06_Same.f k a b = some (decide (a = b)) := by
  unfold footwayref06_Same.f
  by_cases h : a.length = b.length
  · rw [if_pos (by omega)]
    have := same_go a b h ha a.length k 0 (by omega) hk
    simpa using this
  · rw [if_neg (by omega)]
    have : a ≠ b := fun e => h (by rw [e])
    simp [this]
theorem alive_eq (k : Nat) (hk : 10 ≤ k) : footwaylaw06_alive.f k = some true := by
  unfold footwaylaw06_alive.f
  rw [Use_eq (l := [3, 1, 2]) ⟨by decide, by decide⟩ 2 k (by omega)]
  rw [if_pos ⟨by decide, by decide⟩, if_pos (by decide)]
  simp only [Option.bind_some]
  rw [if_pos trivial, Same_eq _ _ (by decide) k (by simp [wo]; omega)]
  rfl
theorem who_bounds (a : Int) : 0 ≤ wrap64 (Int.tmod (IntKind.u64.wrap a) 100) ∧ wrap64 (Int.tmod (IntKind.u64.wrap a) 100) ≤ 99 := by
  have h : 0 ≤ IntKind.u64.wrap a := by
    simp [IntKind.wrap, IntKind.min, IntKind.max, IntKind.signed, IntKind.bits]
    omega
  rw [Int.tmod_eq_emod_of_nonneg h]
  unfold wrap64
  omega
end Go.Proofs.Ytnkkedkkjmehpaa.QLru
