/- Plain laws of what the printed functions of relay answer. -/
import Derived.Test.YtnkkedkkjmehpaaPRex1
namespace Go.Proofs.Ytnkkedkkjmehpaa.QRe
open Go.RowKit Go.Proofs.Ytnkkedkkjmehpaa.ERel Go.Proofs.Ytnkkedkkjmehpaa.PRe Go.Proofs.YtnkkedkkjmehpaaW.PrintWords Go.Proofs.YtnkkedkkjmehpaaW.PrintLast
set_option linter.unusedVariables false
set_option linter.unusedSimpArgs false

theorem same_go (a b : List Int) (hl : a.length = b.length) (hb : a.length ≤ 1000000) (d : Nat) : ∀ (k i : Nat), i + d = a.length → d < k → footwayref06_Same.l0 k a b (a.length : Int) (i : Int) = some (decide (a.drop i = b.drop i)) := by
  induction d with
  | zero =>
    intro k i hi hk
    obtain ⟨k, rfl⟩ : ∃ m, k = m + 1 := ⟨k - 1, by omega⟩
    simp only [footwayref06_Same.l0]
    rw [if_neg (by omega), List.drop_of_length_le (by omega), List.drop_of_length_le (by omega)]
    simp
  | succ d ih =>
    intro k i hi hk
    obtain ⟨k, rfl⟩ : ∃ m, k = m + 1 := ⟨k - 1, by omega⟩
    simp only [footwayref06_Same.l0]
    have hia : i < a.length := by omega
    have hib : i < b.length := by omega
    rw [if_pos (by omega), if_pos (by omega), if_pos (by omega), if_pos (by omega)]
    have ea : rd a (i : Int) = a[i] := by simp [rd, hia]
    have eb : rd b (i : Int) = b[i] := by simp [rd, hib]
    have ew : wrap64 ((i : Int) + 1) = ((i + 1 : Nat) : Int) := by unfold wrap64; omega
    rw [ea, eb, ew, ih k (i + 1) (by omega) (by omega), List.drop_eq_getElem_cons hia, List.drop_eq_getElem_cons hib]
    by_cases he : a[i] = b[i]
    · rw [if_pos he]; simp only [List.cons.injEq, he, true_and]
    · rw [if_neg he]; simp only [List.cons.injEq, he, false_and, decide_false]
theorem Same_eq (a b : List Int) (ha : a.length ≤ 1000000) (k : Nat) (hk : a.length < k) : footwayref06_Same.f k a b = some (decide (a = b)) := by
  unfold footwayref06_Same.f
  by_cases h : a.length = b.length
  · rw [if_pos (by omega)]
    have := same_go a b h ha a.length k 0 (by omega) hk
    simpa using this
  · rw [if_neg (by omega)]
    have : a ≠ b := fun e => h (by rw [e])
    simp [this]
theorem rd_at {l : List Int} {i : Nat} (h : i < l.length) : rd l (i : Int) = l[i] := by simp [rd, h]
theorem wrap_succ {i : Nat} (h : i ≤ 1000000) : wrap64 ((i : Int) + 1) = ((i + 1 : Nat) : Int) := by unfold wrap64; omega
theorem has_go (a : Int) (l : List Int) (hl : l.length ≤ 1000000) (d : Nat) : ∀ (k i : Nat), i + d = l.length → d < k →
    footwayref06_Has.l0 k a l (l.length : Int) (i : Int) = some (decide (a ∈ l.drop i)) := by
  induction d with
  | zero =>
    intro k i hi hk
    obtain ⟨k, rfl⟩ : ∃ m, k = m + 1 := ⟨k - 1, by omega⟩
    simp only [footwayref06_Has.l0]
    rw [if_neg (by omega), List.drop_of_length_le (by omega)]
    simp
  | succ d ih =>
    intro k i hi hk
    obtain ⟨k, rfl⟩ : ∃ m, k = m + 1 := ⟨k - 1, by omega⟩
    have hil : i < l.length := by omega
    simp only [footwayref06_Has.l0]
    rw [if_pos (by omega), if_pos (by omega), if_pos (by omega), rd_at hil, wrap_succ (by omega), List.drop_eq_getElem_cons hil]
    by_cases he : l[i] = a
    · rw [if_pos he]
      simp only [List.mem_cons, he, true_or, decide_true]
    · rw [if_neg he, ih k (i + 1) (by omega) (by omega)]
      have he' : ¬ a = l[i] := fun e => he e.symm
      simp only [List.mem_cons, he', false_or]
theorem Has_eq (l : List Int) (hl : l.length ≤ 1000000) (a : Int) (k : Nat) (hk : l.length < k) : footwayref06_Has.f k l a = some (decide (a ∈ l)) := by
  unfold footwayref06_Has.f
  have := has_go a l hl l.length k 0 (by omega) hk
  simpa using this

theorem mem_goes {l : List S60} {a x : Int} {n : Nat} : x ∈ goes l a n ↔ (0 ≤ x ∧ x < n) ∧ goB l a x = true := by
  unfold goes
  rw [List.mem_filter, List.mem_map]
  constructor
  · rintro ⟨⟨p, hp, rfl⟩, hg⟩
    have := List.mem_range.1 hp
    exact ⟨⟨Int.natCast_nonneg p, by show (p : Int) < n; omega⟩, hg⟩
  · rintro ⟨⟨h0, h1⟩, hg⟩
    exact ⟨⟨x.toNat, List.mem_range.2 (by omega), by show ((x.toNat : Nat) : Int) = x; omega⟩, hg⟩

theorem goes_pair (l : List S60) (a : Int) (n : Nat) : (goes l a n).Pairwise (· < ·) := by
  induction n with
  | zero => simp [goes]
  | succ n ih =>
    rw [goes_succ]
    split
    · rw [List.pairwise_append]
      refine ⟨ih, by simp, fun x hx y hy => ?_⟩
      have h1 := (mem_goes.1 hx).1
      have h2 : y = (n : Int) := by simpa using hy
      omega
    · exact ih

theorem few_eq (l : List S60) : footwaylaw13_few.f l = some (l.take 12) := by
  unfold footwaylaw13_few.f
  have h : (mn (l.length : Int) 12).toNat = min 12 l.length := by unfold mn; split <;> omega
  rw [if_pos (by unfold mn; split <;> omega), if_pos (by unfold mn; split <;> omega), h, ← List.take_eq_take_min]

theorem alive_eq (k : Nat) (hk : 10 ≤ k) : footwaylaw13_alive.f k = some true := by
  unfold footwaylaw13_alive.f
  have h : relay_Egress.f [(⟨3, 0⟩ : S60), (⟨3, 0⟩ : S60), (⟨3, 0⟩ : S60)] 1 1 (-1) = some ([0, 2], 0) := by decide +kernel
  rw [h]
  simp only [Option.bind_some]
  rw [if_pos trivial, Same_eq _ _ (by decide) k (by simp; omega)]
  rfl

theorem Flood_eq (l : List S60) (a : Int) (hl : l.length ≤ 1000) : relay_Flood.f l a = some (if whyN l a = 0 then (goes l a l.length, 0) else ([], whyN l a)) := by
  unfold relay_Flood.f
  rw [if_pos hl]
  split <;> rfl

theorem why_parts {l : List S60} {a : Int} (h : whyN l a = 0) : l.length ≤ 8 ∧ l.any oddB = false ∧ 0 ≤ a ∧ a < l.length := by
  have h1 := why_in h
  unfold whyN at h
  split at h
  · cases h
  · rename_i hh
    refine ⟨by omega, ?_, h1⟩
    cases ho : l.any oddB
    · rfl
    · exact absurd (.inr (.inr ho)) hh

theorem rd_mem {l : List S60} {a : Int} (h0 : 0 ≤ a) (h1 : a < l.length) : rd_T60 l a ∈ l := by
  unfold rd_T60
  have : a.toNat < l.length := by omega
  rw [List.getD_eq_getElem?_getD, List.getElem?_eq_getElem this]
  exact List.getElem_mem this

theorem state_ok {l : List S60} {a p : Int} (h : whyN l a = 0) (h0 : 0 ≤ p) (h1 : p < l.length) : 0 ≤ (rd_T60 l p).f0 ∧ (rd_T60 l p).f0 ≤ 3 := by
  have ho := (why_parts h).2.1
  rw [List.any_eq_false] at ho
  have := ho _ (rd_mem h0 h1)
  simp [oddB] at this
  omega
end Go.Proofs.Ytnkkedkkjmehpaa.QRe
