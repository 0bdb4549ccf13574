/- Proved: RelayNever as a plain statement: for every row of states and all numbers, true. -/
import Derived.Test.YtnkkedkkjmehpaaQRe
import Derived.Test.YtnkkedkkjmehpaaPRex2
namespace Go.Proofs.Ytnkkedkkjmehpaa.Pure
open Go.RowKit Go.Proofs.Ytnkkedkkjmehpaa.ERel Go.Proofs.Ytnkkedkkjmehpaa.PRe Go.Proofs.Ytnkkedkkjmehpaa.QRe Go.Proofs.YtnkkedkkjmehpaaW.PrintWords Go.Proofs.YtnkkedkkjmehpaaW.PrintLast
set_option linter.unusedVariables false
set_option linter.unusedSimpArgs false

theorem never_go (l : List S60) (a a2 a3 : Int) (b : List Int) (hl : l.length ≤ 1000) (ha0 : 0 ≤ a) (ha1 : a < l.length) (hp : b.Pairwise (· < ·)) (hg : ∀ x ∈ b, x ∈ goes l a l.length) (hbl : b.length ≤ 1000) (d : Nat) :
    ∀ (i m : Nat), i + d = b.length → 1000 < m → footwaylaw13_RelayNever.l0 (m + d) l a a2 a3 (goes l a l.length) b b (b.length : Int) (i : Int) = footwaylaw13_RelayNever.l0 m l a a2 a3 (goes l a l.length) b b (b.length : Int) (b.length : Int) := by
  induction d with
  | zero =>
    intro i m hi hm
    obtain rfl : i = b.length := by omega
    rfl
  | succ d ih =>
    intro i m hi hm
    have hib : i < b.length := by omega
    have hx := mem_goes.1 (hg _ (List.getElem_mem hib))
    have hgb := hx.2
    simp only [goB, Bool.and_eq_true, bne_iff_ne, beq_iff_eq] at hgb
    have hHas : footwayref06_Has.f (m + d) (goes l a l.length) b[i] = some true := by
      rw [Has_eq _ (by have := goes_length l a l.length; omega) _ _ (by have := goes_length l a l.length; omega)]
      rw [decide_eq_true (hg _ (List.getElem_mem hib))]
    rw [← Nat.add_assoc]
    rw [footwaylaw13_RelayNever.l0]
    rw [if_pos (by omega), if_pos (by omega), if_pos (by omega), rd_at hib, wrap_succ (by omega), if_neg (by omega), if_neg (by omega), if_neg hgb.1, hHas]
    simp only [Option.bind_some, if_true]
    rw [if_pos hx.1.1, if_pos hx.1.2, if_pos hgb.2.2, if_pos ha0, if_pos ha1, if_pos hgb.2.1]
    rw [ih (i + 1) m (by omega) hm]
    by_cases hi0 : (i : Int) > 0
    · rw [if_pos hi0]
      have hj : i - 1 < b.length := by omega
      have e : wrap64 ((i : Int) - 1) = ((i - 1 : Nat) : Int) := by unfold wrap64; omega
      rw [e, if_pos (by omega), if_pos (by omega), rd_at hj]
      have hlt := List.pairwise_iff_getElem.1 hp (i - 1) i hj hib (by omega)
      rw [if_neg (by omega)]
    · rw [if_neg hi0]

theorem RelayNever (l0 : List S60) (a a2 a3 : Int) : footwaylaw13_RelayNever.f 3000 l0 a a2 a3 = some true := by
  unfold footwaylaw13_RelayNever.f
  rw [few_eq]
  simp only [Option.bind_some]
  have hl : (l0.take 12).length ≤ 12 := by simp; omega
  generalize l0.take 12 = l at hl
  rw [Flood_eq l a (by omega), alive_eq 3000 (by decide)]
  unfold relay_Egress.f
  rw [if_pos (by omega : l.length ≤ 1000)]
  by_cases hy : whyN l a = 0
  · rw [if_pos hy, if_pos hy]
    obtain ⟨hl8, hodd, ha0, ha1⟩ := why_parts hy
    have hgl := goes_length l a l.length
    by_cases hb : badE a2 a3 = true
    · rw [if_pos hb]; rfl
    · rw [if_neg hb]
      have hb' : badE a2 a3 = false := by simpa using hb
      simp only [badE, Bool.or_eq_false_iff, decide_eq_false_iff_not] at hb'
      by_cases h2 : a2 = 2
      · subst h2
        rw [if_pos rfl]
        simp only [Option.bind_some, if_true]
        rw [if_neg (by omega), if_neg (by omega), if_pos (by simp), if_neg (by decide)]
        rw [show (3000 : Nat) = 2999 + 1 from rfl, footwaylaw13_RelayNever.j0]
        rw [if_neg (by decide), show (2999 : Nat) = 2998 + 1 from rfl, footwaylaw13_RelayNever.l0, if_neg (by simp), if_neg (by decide)]
      · rw [if_neg h2]
        have key : ∀ b : List Int, b.Pairwise (· < ·) → (∀ x ∈ b, x ∈ goes l a l.length) → b.length ≤ 12 → footwaylaw13_RelayNever.j0 3000 l a a2 a3 (goes l a l.length) b (!true) = footwaylaw13_RelayNever.l0 (2999 - b.length) l a a2 a3 (goes l a l.length) b b (b.length : Int) (b.length : Int) := by
          intro b hp hg hbl
          rw [show (3000 : Nat) = 2999 + 1 from rfl, footwaylaw13_RelayNever.j0, if_neg (by decide)]
          have := never_go l a a2 a3 b (by omega) ha0 ha1 hp hg (by omega) b.length 0 (2999 - b.length) (by omega) (by omega)
          rw [show 2999 - b.length + b.length = 2999 from by omega] at this
          exact this
        by_cases h1 : a2 = 1 ∨ a3 = -1
        · rw [if_pos h1]
          simp only [Option.bind_some, if_true]
          rw [if_neg (by omega), if_neg (by omega), if_neg h2]
          have hS : footwayref06_Same.f 3000 (goes l a l.length) (goes l a l.length) = some true := by
            rw [Same_eq _ _ (by omega) 3000 (by omega)]; simp
          rw [hS]
          simp only [Option.bind_some, if_true]
          rw [key _ (goes_pair l a l.length) (fun x hx => hx) (by omega)]
          have e : (if a2 = 1 then (footwaylaw13_RelayNever.l0 (2999 - (goes l a l.length).length) l a a2 a3 (goes l a l.length) (goes l a l.length) (goes l a l.length) ((goes l a l.length).length : Int) ((goes l a l.length).length : Int)) else (footwaylaw13_RelayNever.l0 (2999 - (goes l a l.length).length) l a a2 a3 (goes l a l.length) (goes l a l.length) (goes l a l.length) ((goes l a l.length).length : Int) ((goes l a l.length).length : Int))) = footwaylaw13_RelayNever.l0 (2999 - (goes l a l.length).length) l a a2 a3 (goes l a l.length) (goes l a l.length) (goes l a l.length) ((goes l a l.length).length : Int) ((goes l a l.length).length : Int) := by split <;> rfl
          rw [e]
          obtain ⟨m, hm⟩ : ∃ m, 2999 - (goes l a l.length).length = m + 1 := ⟨2998 - (goes l a l.length).length, by omega⟩
          rw [hm, footwaylaw13_RelayNever.l0, if_neg (by omega)]
          by_cases h0 : a2 = 0
          · rw [if_pos h0, if_pos (by omega), Same_eq _ _ (by omega) m (by omega)]
            simp
          · rw [if_neg h0]
        · rw [if_neg h1]
          simp only [Option.bind_some, if_true]
          have hf1 : ((goes l a l.length).filter fun x => !(x != a3)).Pairwise (· < ·) := (goes_pair l a l.length).sublist List.filter_sublist
          have hf2 : ∀ x ∈ (goes l a l.length).filter fun x => !(x != a3), x ∈ goes l a l.length ∧ x = a3 := by
            intro x hx
            have := List.mem_filter.1 hx
            exact ⟨this.1, by simpa using this.2⟩
          have hf3 := List.length_filter_le (fun x => !(x != a3)) (goes l a l.length)
          have hf4 : a3 ∈ goes l a l.length → a3 ∈ (goes l a l.length).filter fun x => !(x != a3) := fun h => List.mem_filter.2 ⟨h, by simp⟩
          generalize (goes l a l.length).filter (fun x => !(x != a3)) = b at hf1 hf2 hf3 hf4
          rw [if_neg (by omega), if_neg (by omega), if_neg h2, if_neg (fun e => h1 (.inl e))]
          rw [key b hf1 (fun x hx => (hf2 x hx).1) (by omega)]
          obtain ⟨m, hm⟩ : ∃ m, 2999 - b.length = m + 1 := ⟨2998 - b.length, by omega⟩
          rw [hm, footwaylaw13_RelayNever.l0, if_neg (by omega), if_pos (by omega), if_neg (fun e => h1 (.inr e))]
          have hH : footwayref06_Has.f m (goes l a l.length) a3 = some (decide (a3 ∈ goes l a l.length)) := Has_eq _ (by omega) _ _ (by omega)
          rw [hH]
          simp only [Option.bind_some]
          rcases b with _ | ⟨x, _ | ⟨y, b⟩⟩
          · have : ¬ a3 ∈ goes l a l.length := fun h => by simpa using hf4 h
            simp [this]
          · have hx := hf2 x (by simp)
            have : a3 ∈ goes l a l.length := hx.2 ▸ hx.1
            simp [this, rd, hx.2]
          · have hx := (hf2 x (by simp)).2
            have hy2 := (hf2 y (by simp)).2
            have := List.pairwise_iff_getElem.1 hf1 0 1 (by simp) (by simp) (by omega)
            simp at this
            omega
  · rw [if_neg hy, if_neg hy]
    simp [hy]
end Go.Proofs.Ytnkkedkkjmehpaa.Pure
