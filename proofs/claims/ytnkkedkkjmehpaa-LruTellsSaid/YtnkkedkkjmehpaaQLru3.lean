/- Plain laws of what the printed functions of the reference of lru answer. -/
import Derived.Test.YtnkkedkkjmehpaaQLru
import Derived.Test.YtnkkedkkjmehpaaPLrux3
namespace Go.Proofs.Ytnkkedkkjmehpaa.QLru
open Go.RowKit Go.Proofs.Ytnkkedkkjmehpaa.ELru Go.Proofs.Ytnkkedkkjmehpaa.PLru Go.Proofs.YtnkkedkkjmehpaaW.PrintWords Go.Proofs.YtnkkedkkjmehpaaW.PrintLast
set_option linter.unusedVariables false
set_option linter.unusedSimpArgs false

theorem rd_at {l : List Int} {i : Nat} (h : i < l.length) : rd l (i : Int) = l[i] := by simp [rd, h]
theorem wrap_succ {i : Nat} (h : i ≤ 1000000) : wrap64 ((i : Int) + 1) = ((i + 1 : Nat) : Int) := by unfold wrap64; omega

theorem wo_cons (x : Int) (l : List Int) (a : Int) : wo (x :: l) a = if x = a then wo l a else x :: wo l a := by
  unfold wo
  rw [List.filter_cons]
  by_cases h : x = a
  · rw [if_pos h, if_neg (by simp [h])]
  · rw [if_neg h, if_pos (by simp [h])]
theorem without_go (a : Int) (l : List Int) (hl : l.length ≤ 1000000) (d : Nat) : ∀ (k i : Nat) (acc : List Int), i + d = l.length → d < k → acc.length ≤ i →
    footwayref06_Without.l0 k a acc l (l.length : Int) (i : Int) = some (acc ++ wo (l.drop i) a) := by
  induction d with
  | zero =>
    intro k i acc hi hk _
    obtain ⟨k, rfl⟩ : ∃ m, k = m + 1 := ⟨k - 1, by omega⟩
    simp only [footwayref06_Without.l0]
    rw [if_neg (by omega), List.drop_of_length_le (by omega)]
    simp [wo]
  | succ d ih =>
    intro k i acc hi hk ha
    obtain ⟨k, rfl⟩ : ∃ m, k = m + 1 := ⟨k - 1, by omega⟩
    have hil : i < l.length := by omega
    simp only [footwayref06_Without.l0]
    rw [if_pos (by omega), if_pos (by omega), if_pos (by omega), rd_at hil, wrap_succ (by omega), List.drop_eq_getElem_cons hil]
    by_cases he : l[i] = a
    · rw [if_pos he, ih k (i + 1) acc (by omega) (by omega) (by omega)]
      simp [wo, he]
    · rw [if_neg he, if_pos (by omega), ih k (i + 1) _ (by omega) (by omega) (by simp; omega), wo_cons, if_neg he, List.append_assoc]
      rfl
theorem Without_eq (l : List Int) (hl : l.length ≤ 1000000) (a : Int) (k : Nat) (hk : l.length < k) : footwayref06_Without.f k l a = some (wo l a) := by
  unfold footwayref06_Without.f
  have := without_go a l hl l.length k 0 [] (by omega) hk (by simp)
  simpa using this
theorem RUse_eq (l : List Int) (hl : l.length ≤ 1000000) (a : Int) (k : Nat) (hk : l.length < k) : footwayref06_Use.f k l a = some (a :: wo l a) := by
  unfold footwayref06_Use.f
  simp only [Option.bind_some]
  rw [Without_eq l hl a k hk]
  simp only [Option.bind_some]
  rw [if_pos (by have := wo_le l a; simp; omega)]
  rfl
theorem has_go (a : Int) (l : List Int) (hl : l.length ≤ 1000000) (d : Nat) : ∀ (k i : Nat), i + d = l.length → d < k →
    footwayref06_Has.l0 k a l (l.length : Int) (i : Int) = some (decide (a ∈ l.drop i)) := by
  induction d with
  | zero =>
    intro k i hi hk
    obtain ⟨k, rfl⟩ : ∃ m, k = m + 1 := ⟨k - 1, by omega⟩
    simp only [footwayref06_Has.l0]
    rw [if_neg (by omega), List.drop_of_length_le (by omega)]
    simp
  | succ d ih =>
    intro k i hi hk
    obtain ⟨k, rfl⟩ : ∃ m, k = m + 1 := ⟨k - 1, by omega⟩
    have hil : i < l.length := by omega
    simp only [footwayref06_Has.l0]
    rw [if_pos (by omega), if_pos (by omega), if_pos (by omega), rd_at hil, wrap_succ (by omega), List.drop_eq_getElem_cons hil]
    by_cases he : l[i] = a
    · rw [if_pos he]
      simp only [List.mem_cons, he, true_or, decide_true]
    · rw [if_neg he, ih k (i + 1) (by omega) (by omega)]
      have he' : ¬ a = l[i] := fun e => he e.symm
      simp only [List.mem_cons, he', false_or]
theorem Has_eq (l : List Int) (hl : l.length ≤ 1000000) (a : Int) (k : Nat) (hk : l.length < k) : footwayref06_Has.f k l a = some (decide (a ∈ l)) := by
  unfold footwayref06_Has.f
  have := has_go a l hl l.length k 0 (by omega) hk
  simpa using this
theorem rright_go (l : List Int) (hl : l.length ≤ 1000000) (d : Nat) : ∀ (k i : Nat), i + d = l.length → d + l.length + 1 < k → (∀ x ∈ l.take i, 0 ≤ x) → (l.take i).Nodup →
    footwayref06_Right.l0 k l l (l.length : Int) (i : Int) = some (rightB l) := by
  induction d with
  | zero =>
    intro k i hi hk hp hn
    obtain ⟨k, rfl⟩ : ∃ m, k = m + 1 := ⟨k - 1, by omega⟩
    simp only [footwayref06_Right.l0]
    rw [List.take_of_length_le (by omega)] at hp hn
    rw [if_neg (by omega), rightB_yes hp hn]
    congr 1
    exact decide_eq_decide.2 (by omega)
  | succ d ih =>
    intro k i hi hk hp hn
    obtain ⟨k, rfl⟩ : ∃ m, k = m + 1 := ⟨k - 1, by omega⟩
    have hil : i < l.length := by omega
    have ht : l.take (i + 1) = l.take i ++ [l[i]] := List.take_succ_eq_append_getElem hil
    simp only [footwayref06_Right.l0]
    rw [if_pos (by omega), if_pos (by omega), if_pos (by omega), rd_at hil, wrap_succ (by omega)]
    by_cases h0 : l[i] < 0
    · rw [if_pos h0, rightB_neg (List.getElem_mem hil) h0]
    · rw [if_neg h0, if_pos (by omega), Int.toNat_natCast, Has_eq _ (by simp; omega) _ k (by simp; omega)]
      simp only [Option.bind_some]
      by_cases hm : l[i] ∈ l.take i
      · rw [if_pos (by simpa using hm), rightB_dup ht hm]
      · rw [if_neg (by simpa using hm)]
        refine ih k (i + 1) (by omega) (by omega) ?_ ?_
        · rw [ht]
          intro x hx
          rcases List.mem_append.1 hx with h | h
          · exact hp x h
          · rw [List.mem_singleton.1 h]; omega
        · rw [ht, List.nodup_append]
          exact ⟨hn, by simp, fun a ha b hb => by rw [List.mem_singleton.1 hb]; rintro rfl; exact hm ha⟩
theorem RRight_eq (l : List Int) (hl : l.length ≤ 1000000) (k : Nat) (hk : 2 * l.length + 1 < k) : footwayref06_Right.f k l = some (rightB l) := by
  unfold footwayref06_Right.f
  exact rright_go l hl l.length k 0 (by omega) (by omega) (by simp) (by simp)
theorem back_go (l : List Int) (hl : l.length ≤ 1000000) (d : Nat) : ∀ (k : Nat) (acc : List Int), d ≤ l.length → d < k → acc.length + d ≤ l.length →
    footwayref06_Back.l0 k l acc ((d : Int) - 1) = some (acc ++ (l.take d).reverse) := by
  induction d with
  | zero =>
    intro k acc _ hk _
    obtain ⟨k, rfl⟩ : ∃ m, k = m + 1 := ⟨k - 1, by omega⟩
    simp only [footwayref06_Back.l0]
    rw [if_neg (by omega)]
    simp
  | succ d ih =>
    intro k acc hd hk ha
    obtain ⟨k, rfl⟩ : ∃ m, k = m + 1 := ⟨k - 1, by omega⟩
    have hil : d < l.length := by omega
    have e1 : ((d + 1 : Nat) : Int) - 1 = (d : Int) := by omega
    have e2 : wrap64 ((d : Int) - 1) = (d : Int) - 1 := by unfold wrap64; omega
    simp only [footwayref06_Back.l0]
    rw [e1, if_pos (by omega), if_pos (by omega), if_pos (by omega), if_pos (by omega), rd_at hil, e2, ih k _ (by omega) (by omega) (by simp; omega)]
    rw [List.take_succ_eq_append_getElem hil, List.reverse_append, List.append_assoc]
    rfl
theorem Back_eq (l : List Int) (hl : l.length ≤ 1000000) (k : Nat) (hk : l.length < k) : footwayref06_Back.f k l = some l.reverse := by
  unfold footwayref06_Back.f
  have e : wrap64 ((l.length : Int) - 1) = (l.length : Int) - 1 := by unfold wrap64; omega
  rw [e]
  have := back_go l hl l.length k [] (by omega) hk (by simp)
  simpa using this
end Go.Proofs.Ytnkkedkkjmehpaa.QLru
