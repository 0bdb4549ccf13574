/- Proved: the law LruTrims as a plain statement: of at most 70 numbers the first so many stay, all others go, the last one first; trimmed in two steps they go as in one; for every list of numbers of 64 bits whose length the row's bound lets in. -/
import Derived.Test.YtnkkedkkjmehpaaQLru
import Derived.Test.YtnkkedkkjmehpaaPLrux2
namespace Go.Proofs.Ytnkkedkkjmehpaa.Pure
open Go.RowKit Go.Proofs.Ytnkkedkkjmehpaa.ELru Go.Proofs.Ytnkkedkkjmehpaa.PLru Go.Proofs.Ytnkkedkkjmehpaa.QLru Go.Proofs.YtnkkedkkjmehpaaW.PrintWords Go.Proofs.YtnkkedkkjmehpaaW.PrintLast
set_option linter.unusedVariables false
set_option linter.unusedSimpArgs false

theorem who_bounds80 (a : Int) : 0 ≤ wrap64 (Int.tmod (IntKind.u64.wrap a) 80) ∧ wrap64 (Int.tmod (IntKind.u64.wrap a) 80) ≤ 79 := by
  have h : 0 ≤ IntKind.u64.wrap a := by
    simp [IntKind.wrap, IntKind.min, IntKind.max, IntKind.signed, IntKind.bits]
    omega
  rw [Int.tmod_eq_emod_of_nonneg h]
  unfold wrap64
  omega
theorem Ok.tk {l : List Int} (h : Ok l) (n : Nat) : Ok (l.take n) := by
  refine ⟨by have := h.1; rw [List.length_take]; omega, ?_⟩
  rw [List.all_eq_true]
  exact fun x hx => List.all_eq_true.1 h.2 x (List.mem_of_mem_take hx)
theorem right_take {l : List Int} (h : rightB l = true) (n : Nat) : rightB (l.take n) = true := by
  rw [rightB_iff] at h ⊢
  exact ⟨fun x hx => h.1 x (List.mem_of_mem_take hx), h.2.1.sublist (List.take_sublist _ _), by have := h.2.2; rw [List.length_take]; omega⟩
theorem Trim_yes {l : List Int} (h : Ok l) (hr : rightB l = true) (a : Int) (ha : 0 ≤ a) : lru_Trim.f l a = some (l.take a.toNat, (l.drop a.toNat).reverse, 0) := by
  unfold lru_Trim.f
  rw [if_pos (show l.length ≤ 1000 ∧ l.all in64B = true from h), if_pos ⟨hr, ha⟩]
theorem Trim_no {l : List Int} (h : Ok l) (a : Int) (hn : ¬ (rightB l = true ∧ 0 ≤ a)) : lru_Trim.f l a = some ([], [], 1) := by
  unfold lru_Trim.f
  rw [if_pos (show l.length ≤ 1000 ∧ l.all in64B = true from h), if_neg hn]
theorem Oldest_eq {l : List Int} (h : Ok l) : lru_Oldest.f l = some (if rightB l = true then (if l.length = 0 then (0, 4) else (rd l ((l.length : Int) - 1), 0)) else (0, 1)) := by
  unfold lru_Oldest.f
  rw [Right_eq h]
  simp only [Option.bind_some]
  by_cases hr : rightB l = true
  · rw [if_pos hr, if_pos hr]
    by_cases h0 : l.length = 0
    · rw [if_pos (by omega), if_pos h0]
    · have h1 := h.1
      have hw : wrap64 ((l.length : Int) - 1) = (l.length : Int) - 1 := by unfold wrap64; omega
      rw [if_neg (by omega), hw, if_pos (by omega), if_pos (by omega), if_neg h0]
  · rw [if_neg hr, if_neg hr]

theorem LruTrims : footwaylaw06_LruTrims.Pure := by
  intro l0 a1 a2 _ _ hw _ _
  refine ⟨2000, ?_⟩
  have hall : l0.all in64B = true := List.all_eq_true.2 fun x hx => in64_of_wf (hw x hx)
  have hok : Ok (l0.take 70) := Ok.take hall 70 (by omega)
  have hlen : (l0.take 70).length ≤ 70 := by rw [List.length_take]; omega
  obtain ⟨m0, m1⟩ := who_bounds80 a1
  obtain ⟨s0, s1⟩ := who_bounds80 a2
  unfold footwaylaw06_LruTrims.f
  rw [few_eq]
  simp only [Option.bind_some]
  generalize wrap64 (Int.tmod (IntKind.u64.wrap a1) 80) = m at m0 m1
  generalize wrap64 (Int.tmod (IntKind.u64.wrap a2) 80) = s at s0 s1
  generalize l0.take 70 = l at hok hlen
  have hms : wrap64 (m + s) = m + s := by unfold wrap64; omega
  rw [hms]
  by_cases hr : rightB l = true
  · have hra := right_take hr (m + s).toNat
    have e1 : (m + s).toNat = m.toNat + s.toNat := by omega
    rw [Trim_yes hok hr _ (by omega)]
    simp only [Option.bind_some, if_true]
    rw [Trim_yes (Ok.tk hok _) hra m m0]
    simp only [Option.bind_some, if_true]
    rw [Trim_yes hok hr m m0]
    simp only [Option.bind_some, if_true]
    rw [Oldest_eq hok, if_pos hr]
    simp only [Option.bind_some, if_true]
    have eb : (l.take (m + s).toNat).take m.toNat = l.take m.toNat := by rw [List.take_take, e1]; congr 1; omega
    rw [eb, Same_eq _ _ (by rw [List.length_take]; omega) 2000 (by rw [List.length_take]; omega)]
    simp only [Option.bind_some, decide_true, if_true, List.nil_append, List.length_nil]
    rw [if_pos (by simp; omega), if_pos (by simp; omega)]
    have eg : (l.drop (m + s).toNat).reverse ++ ((l.take (m + s).toNat).drop m.toNat).reverse = (l.drop m.toNat).reverse := by
      rw [← List.reverse_append, e1, List.drop_take, Nat.add_sub_cancel_left, ← List.drop_drop, List.take_append_drop]
    rw [eg, Same_eq _ _ (by simp; omega) 2000 (by simp; omega)]
    simp only [Option.bind_some, decide_true, if_true]
    rw [Right_eq (Ok.tk hok _), right_take hr]
    simp only [Option.bind_some, if_true]
    rw [if_neg (by rw [List.length_take]; omega), alive_eq 2000 (by omega)]
    simp only [Option.bind_some, if_true]
    by_cases h0 : (l.drop m.toNat).reverse.length = 0
    · rw [if_pos (by omega)]
    · rw [if_neg (by omega)]
      have hl : m.toNat < l.length := by simp at h0; omega
      rw [if_neg (show ¬ l.length = 0 by omega)]
      simp only [if_true]
      rw [if_pos (by omega)]
      have ea : rd (l.drop m.toNat).reverse 0 = rd l ((l.length : Int) - 1) := by
        have e2 : ((l.length : Int) - 1).toNat = l.length - 1 := by omega
        simp only [rd, e2, Int.toNat_zero]
        rw [List.getD_eq_getElem?_getD, List.getD_eq_getElem?_getD, List.getElem?_reverse (by simp; omega)]
        simp only [List.length_drop, List.getElem?_drop]
        congr 2
        omega
      rw [ea]
      simp
  · rw [Trim_no hok _ (fun h => hr h.1)]
    simp only [Option.bind_some]
    rw [if_neg (by decide), alive_eq 2000 (by omega)]
    rfl
end Go.Proofs.Ytnkkedkkjmehpaa.Pure
