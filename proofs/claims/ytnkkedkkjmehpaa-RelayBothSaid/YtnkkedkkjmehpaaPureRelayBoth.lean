/- Proved: RelayBoth as a plain statement: for every row of states and all numbers, true. -/
import Derived.Test.YtnkkedkkjmehpaaQRe3
namespace Go.Proofs.Ytnkkedkkjmehpaa.Pure
open Go.RowKit Go.Proofs.Ytnkkedkkjmehpaa.ERel Go.Proofs.Ytnkkedkkjmehpaa.PRe Go.Proofs.Ytnkkedkkjmehpaa.QRe Go.Proofs.YtnkkedkkjmehpaaW.PrintWords Go.Proofs.YtnkkedkkjmehpaaW.PrintLast
set_option linter.unusedVariables false
set_option linter.unusedSimpArgs false

theorem rd_set {l : List S60} {b p : Int} (hb0 : 0 ≤ b) (hb1 : b < l.length) (hp0 : 0 ≤ p) (hp1 : p < l.length) : rd_T60 (l.set b.toNat ⟨0, 0⟩) p = if p = b then ⟨0, 0⟩ else rd_T60 l p := by
  unfold rd_T60
  rw [List.getD_eq_getElem?_getD, List.getD_eq_getElem?_getD, List.getElem?_set]
  by_cases h : p = b
  · subst h
    have h1 : p.toNat < l.length := by omega
    simp [h1]
  · have h2 : b.toNat ≠ p.toNat := by omega
    simp [h, h2]

theorem why_set {l : List S60} {a b : Int} (h : whyN l a = 0) (hb0 : 0 ≤ b) (hb1 : b < l.length) : whyN (l.set b.toNat ⟨0, 0⟩) a = 0 := by
  obtain ⟨h8, ho, h0, h1⟩ := why_parts h
  have hany : (l.set b.toNat ⟨0, 0⟩).any oddB = false := by
    rw [List.any_eq_false] at ho ⊢
    intro x hx
    rcases List.mem_or_eq_of_mem_set hx with h | h
    · exact ho x h
    · subst h; simp [oddB]
  unfold whyN
  rw [List.length_set, hany, if_neg (fun h => by rcases h with h | h | h <;> first | omega | cases h), if_neg (by omega)]

theorem goes_set {l : List S60} {a b : Int} (ha0 : 0 ≤ a) (ha1 : a < l.length) (hb0 : 0 ≤ b) (hb1 : b < l.length) (hab : a ≠ b) (n : Nat) (hn : n ≤ l.length) : goes (l.set b.toNat ⟨0, 0⟩) a n = wo (goes l a n) b := by
  unfold goes wo
  rw [List.filter_filter]
  apply List.filter_congr
  intro x hx
  have h01 : 0 ≤ x ∧ x < l.length := by
    obtain ⟨p, hp, rfl⟩ := List.mem_map.1 hx
    have hp' := List.mem_range.1 hp
    exact ⟨Int.natCast_nonneg p, by show (p : Int) < _; omega⟩
  obtain ⟨h0, h1⟩ := h01
  unfold goB
  rw [rd_set hb0 hb1 ha0 ha1, rd_set hb0 hb1 h0 h1, if_neg hab]
  by_cases hpb : x = b
  · rw [if_pos hpb]
    simp [hpb]
  · rw [if_neg hpb]
    simp [hpb]

theorem goB_symm (l : List S60) (a b : Int) : goB l a b = goB l b a := by
  unfold goB
  rw [show (b != a) = (a != b) from by simp [bne, BEq.comm], Bool.and_comm ((rd_T60 l a).f0 == 3)]

theorem RelayBoth (l0 : List S60) (a b : Int) : footwaylaw13_RelayBoth.f 3000 l0 a b = some true := by
  unfold footwaylaw13_RelayBoth.f
  rw [few_eq]
  simp only [Option.bind_some]
  have hl : (l0.take 12).length ≤ 12 := by simp; omega
  generalize l0.take 12 = l at hl
  rw [Flood_eq l a (by omega), Flood_eq l b (by omega)]
  simp only [Option.bind_some]
  by_cases hya : whyN l a = 0
  · obtain ⟨hl8, hodd, ha0, ha1⟩ := why_parts hya
    have hga := goes_length l a l.length
    rw [if_pos hya]
    by_cases hyb : whyN l b = 0
    · obtain ⟨_, _, hb0, hb1⟩ := why_parts hyb
      have hgb := goes_length l b l.length
      rw [if_pos hyb]
      simp only [if_true]
      rw [show (3000 : Nat) = 2999 + 1 from rfl, footwaylaw13_RelayBoth.j0, if_neg (by decide), if_neg (by omega), if_neg (by omega), if_neg (by omega), if_neg (by omega)]
      rw [Has_eq _ (by omega) _ _ (by omega), Has_eq _ (by omega) _ _ (by omega)]
      simp only [Option.bind_some]
      have hm : decide (b ∈ goes l a l.length) = decide (a ∈ goes l b l.length) := by
        rw [decide_eq_decide, mem_goes, mem_goes, goB_symm l a b]
        constructor
        · exact fun h => ⟨⟨ha0, ha1⟩, h.2⟩
        · exact fun h => ⟨⟨hb0, hb1⟩, h.2⟩
      rw [if_neg (by rw [hm]; simp), alive_eq 2999 (by decide)]
      simp only [Option.bind_some]
      rw [show (2999 : Nat) = 2998 + 1 from rfl, footwaylaw13_RelayBoth.j1, if_neg (by decide)]
      by_cases hab : a = b
      · rw [if_pos hab, Has_eq _ (by omega) _ _ (by omega)]
        have : ¬ a ∈ goes l a l.length := fun h => by
          have := (mem_goes.1 h).2
          simp [goB] at this
        simp [this]
      · rw [if_neg hab]
        simp only [Option.bind_some, List.nil_append, List.length_nil]
        rw [if_pos (by omega), if_pos hb0, if_pos hb1]
        rw [Flood_eq _ a (by simp; omega), if_pos (why_set hya hb0 hb1)]
        simp only [Option.bind_some, if_true, List.length_set]
        rw [goes_set ha0 ha1 hb0 hb1 hab l.length (Nat.le_refl _), Without_eq _ (by omega) _ _ (by omega)]
        have hw : (wo (goes l a l.length) b).length ≤ (goes l a l.length).length := List.length_filter_le _ _
        simp only [Option.bind_some]
        rw [Same_eq _ _ (by omega) _ (by omega)]
        simp
    · rw [if_neg hyb]
      simp only [if_true]
      rw [show (3000 : Nat) = 2999 + 1 from rfl, footwaylaw13_RelayBoth.j0, if_pos (by simpa using hyb), alive_eq 2999 (by decide)]
      simp
  · rw [if_neg hya]
    simp only []
    rw [if_neg hya]
    by_cases hyb : whyN l b = 0
    · rw [if_pos hyb]
      rw [show (3000 : Nat) = 2999 + 1 from rfl, footwaylaw13_RelayBoth.j0, if_pos rfl, alive_eq 2999 (by decide)]
      simp
    · rw [if_neg hyb]
      rw [show (3000 : Nat) = 2999 + 1 from rfl, footwaylaw13_RelayBoth.j0, if_pos rfl, alive_eq 2999 (by decide)]
      simp
end Go.Proofs.Ytnkkedkkjmehpaa.Pure
