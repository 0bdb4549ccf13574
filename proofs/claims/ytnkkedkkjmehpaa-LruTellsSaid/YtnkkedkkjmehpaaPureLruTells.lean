/- Proved: the law LruTells as a plain statement: which are orders, any behind a use, without one, and trimmed, and its oldest one, are as the reference says, or refused; for every list of numbers of 64 bits whose length the row's bound lets in, and any two numbers. -/
import Derived.Test.YtnkkedkkjmehpaaQLru3
import Derived.Test.YtnkkedkkjmehpaaPureLruTrims
import Derived.Test.YtnkkedkkjmehpaaPLrux4
namespace Go.Proofs.Ytnkkedkkjmehpaa.Pure
open Go.RowKit Go.Proofs.Ytnkkedkkjmehpaa.ELru Go.Proofs.Ytnkkedkkjmehpaa.PLru Go.Proofs.Ytnkkedkkjmehpaa.QLru Go.Proofs.YtnkkedkkjmehpaaW.PrintWords Go.Proofs.YtnkkedkkjmehpaaW.PrintLast
set_option linter.unusedVariables false
set_option linter.unusedSimpArgs false

theorem tells3 (l : List Int) (hl : l.length ≤ 100) (a : Int) (k : Nat) (hk : 500 ≤ k) :
    footwaylaw06_LruTells.j3 k l a (if (wo l a).length ≤ 63 then (a :: wo l a, (0 : Int)) else ([], 5)).1 (if (wo l a).length ≤ 63 then (a :: wo l a, (0 : Int)) else ([], 5)).2 = some true := by
  obtain ⟨k, rfl⟩ : ∃ m, k = m + 1 := ⟨k - 1, by omega⟩
  have h1 := wo_le l a
  simp only [footwaylaw06_LruTells.j3]
  rw [RUse_eq l (by omega) a k (by omega)]
  simp only [Option.bind_some]
  by_cases h : (wo l a).length ≤ 63
  · rw [if_neg (by simp; omega), if_pos h]
    simp only [if_true]
    rw [Same_eq _ _ (by simp; omega) k (by simp; omega)]
    simp
  · rw [if_pos (by simp; omega), if_neg h]
    simp

theorem tells2 (l : List Int) (hl : l.length ≤ 100) (a : Int) (k : Nat) (hk : 600 ≤ k) :
    footwaylaw06_LruTells.j2 k l a (if 0 ≤ a then (if (wo l a).length ≤ 63 then (a :: wo l a, (0 : Int)) else ([], 5)) else ([], 1)).1 (if 0 ≤ a then (if (wo l a).length ≤ 63 then (a :: wo l a, (0 : Int)) else ([], 5)) else ([], 1)).2
      (if 0 ≤ a then (if a ∈ l then (wo l a, (0 : Int)) else ([], 4)) else ([], 1)).1 (if 0 ≤ a then (if a ∈ l then (wo l a, (0 : Int)) else ([], 4)) else ([], 1)).2 = some true := by
  obtain ⟨k, rfl⟩ : ∃ m, k = m + 1 := ⟨k - 1, by omega⟩
  have h1 := wo_le l a
  by_cases h0 : 0 ≤ a
  · rw [if_pos h0, if_pos h0]
    simp only [footwaylaw06_LruTells.j2]
    rw [if_neg (by omega), Has_eq l (by omega) a k (by omega)]
    simp only [Option.bind_some]
    by_cases hm : a ∈ l
    · rw [if_pos (by simpa using hm), if_pos hm]
      simp only [if_true]
      rw [Without_eq l (by omega) a k (by omega)]
      simp only [Option.bind_some]
      rw [Same_eq _ _ (by omega) k (by omega)]
      simp only [Option.bind_some, decide_true, if_true]
      exact tells3 l hl a k (by omega)
    · rw [if_neg (by simpa using hm), if_neg hm]
      simp only [if_true, List.length_nil, Int.ofNat_zero, Int.natCast_zero]
      exact tells3 l hl a k (by omega)
  · rw [if_neg h0, if_neg h0]
    simp only [footwaylaw06_LruTells.j2]
    rw [if_pos (by omega)]
    simp

theorem tells1 (l : List Int) (hl : l.length ≤ 100) (a b : Int) (k : Nat) (hk : 700 ≤ k) :
    footwaylaw06_LruTells.j1 k l a b (if 0 ≤ a then (if (wo l a).length ≤ 63 then (a :: wo l a, (0 : Int)) else ([], 5)) else ([], 1)).1 (if 0 ≤ a then (if (wo l a).length ≤ 63 then (a :: wo l a, (0 : Int)) else ([], 5)) else ([], 1)).2
      (if 0 ≤ a then (if a ∈ l then (wo l a, (0 : Int)) else ([], 4)) else ([], 1)).1 (if 0 ≤ a then (if a ∈ l then (wo l a, (0 : Int)) else ([], 4)) else ([], 1)).2
      (if 0 ≤ b then (l.take b.toNat, (l.drop b.toNat).reverse, (0 : Int)) else ([], [], 1)).1 (if 0 ≤ b then (l.take b.toNat, (l.drop b.toNat).reverse, (0 : Int)) else ([], [], 1)).2.1 (if 0 ≤ b then (l.take b.toNat, (l.drop b.toNat).reverse, (0 : Int)) else ([], [], 1)).2.2 = some true := by
  obtain ⟨k, rfl⟩ : ∃ m, k = m + 1 := ⟨k - 1, by omega⟩
  by_cases h0 : 0 ≤ b
  · rw [if_pos h0]
    simp only [footwaylaw06_LruTells.j1]
    have hm : (mn b (l.length : Int)).toNat = min b.toNat l.length := by unfold mn; split <;> omega
    rw [if_neg (by omega)]
    simp only [if_true]
    rw [if_pos (by unfold mn; split <;> omega), if_pos (by unfold mn; split <;> omega), hm, ← List.take_eq_take_min, Same_eq _ _ (by simp; omega) k (by simp; omega)]
    simp only [Option.bind_some, decide_true, if_true]
    have hd : l.drop (min b.toNat l.length) = l.drop b.toNat := by
      rcases Nat.le_total b.toNat l.length with h | h
      · rw [Nat.min_eq_left h]
      · rw [List.drop_of_length_le h, List.drop_of_length_le (by omega)]
    rw [hd, Back_eq _ (by simp; omega) k (by simp; omega)]
    simp only [Option.bind_some]
    rw [Same_eq _ _ (by simp; omega) k (by simp; omega)]
    simp only [Option.bind_some, decide_true, if_true]
    exact tells2 l hl a k (by omega)
  · rw [if_neg h0]
    simp only [footwaylaw06_LruTells.j1]
    rw [if_pos (by omega)]
    simp only [if_true, List.length_nil, Int.ofNat_zero, Int.natCast_zero]
    exact tells2 l hl a k (by omega)

theorem LruTells : footwaylaw06_LruTells.Pure := by
  intro l0 a b _ _ hw _ _
  refine ⟨2000, ?_⟩
  have hall : l0.all in64B = true := List.all_eq_true.2 fun x hx => in64_of_wf (hw x hx)
  have hok : Ok (l0.take 70) := Ok.take hall 70 (by omega)
  have hlen : (l0.take 70).length ≤ 70 := by rw [List.length_take]; omega
  unfold footwaylaw06_LruTells.f
  rw [few_eq]
  simp only [Option.bind_some]
  generalize l0.take 70 = l at hok hlen
  rw [Use_eq hok a 2000 (by omega)]
  simp only [Option.bind_some]
  rw [Oldest_eq hok]
  simp only [Option.bind_some]
  rw [Drop_eq hok a 2000 (by omega)]
  simp only [Option.bind_some]
  by_cases hr : rightB l = true
  · have eT : lru_Trim.f l b = some (if 0 ≤ b then (l.take b.toNat, (l.drop b.toNat).reverse, (0 : Int)) else ([], [], 1)) := by
      by_cases h0 : 0 ≤ b
      · rw [Trim_yes hok hr b h0, if_pos h0]
      · rw [Trim_no hok b (fun h => h0 h.2), if_neg h0]
    rw [eT]
    simp only [Option.bind_some]
    rw [RRight_eq l (by omega) 2000 (by omega), Right_eq hok, hr]
    simp only [Option.bind_some, true_and, if_true, bne_self_eq_false, Bool.false_eq_true, if_false]
    rw [alive_eq 2000 (by omega)]
    simp only [Option.bind_some, Bool.not_true, footwaylaw06_LruTells.j0, Bool.false_eq_true, if_false, if_true]
    by_cases h0 : l.length = 0
    · rw [if_pos (by omega), if_pos h0]
      simp only [if_true]
      exact tells1 l (by omega) a b 1999 (by omega)
    · have hwr : wrap64 ((l.length : Int) - 1) = (l.length : Int) - 1 := by unfold wrap64; omega
      rw [if_neg (by omega), if_neg h0, hwr]
      simp only [if_true]
      rw [if_pos (by omega), if_pos (by omega)]
      exact tells1 l (by omega) a b 1999 (by omega)
  · rw [Trim_no hok b (fun h => hr h.1)]
    simp only [Option.bind_some]
    have hf : rightB l = false := by simpa using hr
    rw [RRight_eq l (by omega) 2000 (by omega), Right_eq hok, hf]
    simp only [Option.bind_some, bne_self_eq_false, Bool.false_eq_true, if_false, false_and]
    rw [alive_eq 2000 (by omega)]
    simp [footwaylaw06_LruTells.j0]
end Go.Proofs.Ytnkkedkkjmehpaa.Pure
