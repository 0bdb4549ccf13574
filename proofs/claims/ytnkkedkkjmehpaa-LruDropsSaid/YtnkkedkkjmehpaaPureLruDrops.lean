/- Proved: the law LruDrops as a plain statement: of at most 70 numbers, whoever is dropped and used then is ahead of all others, for every list of numbers of 64 bits whose length the row's bound lets in. -/
import Derived.Test.YtnkkedkkjmehpaaQLru
namespace Go.Proofs.Ytnkkedkkjmehpaa.Pure
open Go.RowKit Go.Proofs.Ytnkkedkkjmehpaa.ELru Go.Proofs.Ytnkkedkkjmehpaa.PLru Go.Proofs.Ytnkkedkkjmehpaa.QLru Go.Proofs.YtnkkedkkjmehpaaW.PrintWords Go.Proofs.YtnkkedkkjmehpaaW.PrintLast
set_option linter.unusedVariables false
set_option linter.unusedSimpArgs false

theorem LruDrops : footwaylaw06_LruDrops.Pure := by
  intro l0 a1 _ _ hw _
  refine ⟨2000, ?_⟩
  have hall : l0.all in64B = true := List.all_eq_true.2 fun x hx => in64_of_wf (hw x hx)
  have hok : Ok (l0.take 70) := Ok.take hall 70 (by omega)
  obtain ⟨h0, h1⟩ := who_bounds a1
  unfold footwaylaw06_LruDrops.f
  rw [few_eq]
  simp only [Option.bind_some]
  generalize wrap64 (Int.tmod (IntKind.u64.wrap a1) 100) = w at h0 h1
  generalize l0.take 70 = l at hok
  have hin : in64B w = true := by simp [in64B]; omega
  rw [Drop_eq hok w 2000 (by omega)]
  simp only [Option.bind_some]
  by_cases hr : rightB l = true
  · rw [if_pos (show rightB l = true ∧ 0 ≤ w from ⟨hr, h0⟩)]
    by_cases hm : w ∈ l
    · obtain ⟨hp, hn, hl⟩ := rightB_iff.1 hr
      have hlen := wo_len hn hm
      have hrw := right_wo hr w
      have hrc : rightB (w :: wo l w) = true := by
        rw [rightB_iff]
        refine ⟨fun x hx => ?_, ?_, by simp; omega⟩
        · rcases List.mem_cons.1 hx with rfl | hx
          · exact h0
          · exact hp x (wo_mem.1 hx).1
        · rw [List.nodup_cons]
          exact ⟨fun hx => (wo_mem.1 hx).2 rfl, hn.sublist (wo_sub l w)⟩
      have hoc : Ok (w :: wo l w) := (hok.wo w).cons (by omega) hin
      have e1 : wo (w :: wo l w) w = wo l w := by
        show List.filter _ _ = _
        rw [List.filter_cons_of_neg (by simp)]
        exact wo_wo l w
      rw [if_pos hm]
      simp only []
      rw [if_pos trivial, Use_eq (hok.wo w) w 2000 (by omega), if_pos (show rightB (wo l w) = true ∧ 0 ≤ w from ⟨hrw, h0⟩), wo_wo, if_pos (show (wo l w).length ≤ 63 by omega)]
      simp only [Option.bind_some]
      rw [Use_eq hok w 2000 (by omega), if_pos (show rightB l = true ∧ 0 ≤ w from ⟨hr, h0⟩), if_pos (show (wo l w).length ≤ 63 by omega)]
      simp only [Option.bind_some]
      rw [Drop_eq hoc w 2000 (by omega), if_pos (show rightB (w :: wo l w) = true ∧ 0 ≤ w from ⟨hrc, h0⟩), if_pos (show w ∈ w :: wo l w by simp), e1]
      simp only [Option.bind_some]
      rw [Drop_eq (hok.wo w) w 2000 (by omega), if_pos (show rightB (wo l w) = true ∧ 0 ≤ w from ⟨hrw, h0⟩), if_neg (show ¬ w ∈ wo l w from fun hx => (wo_mem.1 hx).2 rfl)]
      simp only [Option.bind_some]
      rw [alive_eq 2000 (by omega)]
      simp only [Option.bind_some, if_true]
      rw [Same_eq _ _ (by simp; omega) 2000 (by simp; omega)]
      simp only [Option.bind_some, decide_true, if_true]
      rw [Same_eq _ _ (by omega) 2000 (by omega)]
      simp only [Option.bind_some, decide_true, if_true]
      rw [if_pos (by simp; omega), if_pos (by simp)]
      simp [rd]
    · rw [if_neg hm]
      simp only []
      rw [if_neg (by decide), alive_eq 2000 (by omega)]
      rfl
  · rw [if_neg (show ¬ (rightB l = true ∧ 0 ≤ w) from fun h => hr h.1)]
    simp only []
    rw [if_neg (by decide), alive_eq 2000 (by omega)]
    rfl
end Go.Proofs.Ytnkkedkkjmehpaa.Pure
