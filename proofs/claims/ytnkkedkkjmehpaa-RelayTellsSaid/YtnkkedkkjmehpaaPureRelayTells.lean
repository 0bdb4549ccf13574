/- Proved: RelayTells as a plain statement: for every row of states and all numbers, true. -/
import Derived.Test.YtnkkedkkjmehpaaQRe3
import Derived.Test.YtnkkedkkjmehpaaPRex5
namespace Go.Proofs.Ytnkkedkkjmehpaa.Pure
open Go.RowKit Go.Proofs.Ytnkkedkkjmehpaa.ERel Go.Proofs.Ytnkkedkkjmehpaa.PRe Go.Proofs.Ytnkkedkkjmehpaa.QRe Go.Proofs.YtnkkedkkjmehpaaW.PrintWords Go.Proofs.YtnkkedkkjmehpaaW.PrintLast
set_option linter.unusedVariables false
set_option linter.unusedSimpArgs false

theorem rdT_at {l : List S60} {i : Nat} (h : i < l.length) : rd_T60 l (i : Int) = l[i] := by
  simp [rd_T60, List.getD_eq_getElem?_getD, h]

theorem why_go (l : List S60) (a : Int) (hl : l.length ≤ 1000) (d : Nat) : ∀ (k i : Nat), i + d = l.length → d + 2 < k → (l.take i).any oddB = false → footwayref13_Why.l0 k l a l (l.length : Int) (i : Int) = some (whyN l a) := by
  induction d with
  | zero =>
    intro k i hi hk hno
    obtain ⟨k, rfl⟩ : ∃ m, k = m + 2 := ⟨k - 2, by omega⟩
    obtain rfl : i = l.length := by omega
    rw [List.take_length] at hno
    rw [footwayref13_Why.l0, if_neg (by omega)]
    unfold whyN
    rw [hno]
    by_cases h0 : l.length < 1
    · rw [if_pos (by omega), footwayref13_Why.j1, if_pos rfl, if_pos (.inl h0)]
    · rw [if_neg (by omega), footwayref13_Why.j1]
      by_cases h1 : 8 < l.length
      · rw [if_pos (decide_eq_true (by omega)), if_pos (.inr (.inl h1))]
      · rw [decide_eq_false (show ¬ ((l.length : Int) > 8) by omega), if_neg (by decide), if_neg (show ¬ (l.length < 1 ∨ 8 < l.length ∨ false = true) from fun h => by
          rcases h with h | h | h
          · exact h0 h
          · exact h1 h
          · cases h)]
        by_cases h2 : a < 0
        · rw [if_pos h2, if_pos (.inl h2)]
        · rw [if_neg h2]
          by_cases h3 : (l.length : Int) ≤ a
          · rw [if_pos h3, if_pos (.inr h3)]
          · rw [if_neg (by omega), if_neg (by omega)]
  | succ d ih =>
    intro k i hi hk hno
    obtain ⟨k, rfl⟩ : ∃ m, k = m + 1 := ⟨k - 1, by omega⟩
    have hil : i < l.length := by omega
    rw [footwayref13_Why.l0, if_pos (by omega), if_pos (by omega), if_pos (by omega), rdT_at hil, wrap_succ (by omega)]
    have htk : l.take (i + 1) = l.take i ++ [l[i]] := by rw [List.take_succ_eq_append_getElem hil]
    have hbad : oddB l[i] = true → whyN l a = 1 := by
      intro h
      have : l.any oddB = true := List.any_eq_true.2 ⟨_, List.getElem_mem hil, h⟩
      unfold whyN
      rw [if_pos (.inr (.inr this))]
    by_cases h0 : l[i].f0 < 0
    · rw [if_pos h0, hbad (by simp [oddB, h0])]
    · rw [if_neg h0]
      by_cases h1 : l[i].f0 > 3
      · rw [if_pos h1, hbad (by simp [oddB]; omega)]
      · rw [if_neg h1]
        exact ih k (i + 1) (by omega) (by omega) (by rw [htk, List.any_append, hno]; simp [oddB]; omega)

theorem Why_eq (l : List S60) (a : Int) (hl : l.length ≤ 1000) (k : Nat) (hk : l.length + 2 < k) : footwayref13_Why.f k l a = some (whyN l a) := by
  unfold footwayref13_Why.f
  exact why_go l a hl l.length k 0 (by omega) (by omega) rfl

theorem rflood_go (l : List S60) (a : Int) (hl : l.length ≤ 1000) (ha0 : 0 ≤ a) (ha1 : a < l.length) (d : Nat) : ∀ (k i : Nat), i + d = l.length → d < k → footwayref13_Flood.l0 k l a (goes l a i) l (l.length : Int) (i : Int) = some (goes l a l.length) := by
  induction d with
  | zero =>
    intro k i hi hk
    obtain ⟨k, rfl⟩ : ∃ m, k = m + 1 := ⟨k - 1, by omega⟩
    obtain rfl : i = l.length := by omega
    rw [footwayref13_Flood.l0, if_neg (by omega)]
  | succ d ih =>
    intro k i hi hk
    obtain ⟨k, rfl⟩ : ∃ m, k = m + 1 := ⟨k - 1, by omega⟩
    have hil : i < l.length := by omega
    have hgl := goes_length l a i
    rw [footwayref13_Flood.l0, if_pos (by omega), if_pos (by omega), if_pos (by omega), if_pos ha0, if_pos ha1, wrap_succ (by omega)]
    have IH := ih k (i + 1) (by omega) (by omega)
    rw [goes_succ] at IH
    by_cases h1 : (rd_T60 l a).f0 = 3
    · rw [if_pos h1]
      by_cases h2 : (rd_T60 l (i : Int)).f0 = 3
      · rw [if_pos h2]
        by_cases h3 : (i : Int) = a
        · rw [if_pos h3]
          rw [if_neg (by simp [goB, h3])] at IH
          exact IH
        · rw [if_neg h3, if_pos (by omega)]
          rw [if_pos (by simp [goB, h1, h2, h3])] at IH
          exact IH
      · rw [if_neg h2]
        rw [if_neg (by simp [goB, h2])] at IH
        exact IH
    · rw [if_neg h1]
      rw [if_neg (by simp [goB, h1])] at IH
      exact IH

theorem rFlood_eq (l : List S60) (a : Int) (hl : l.length ≤ 1000) (ha0 : 0 ≤ a) (ha1 : a < l.length) (k : Nat) (hk : l.length < k) : footwayref13_Flood.f k l a = some (goes l a l.length) := by
  unfold footwayref13_Flood.f
  have := rflood_go l a hl ha0 ha1 l.length k 0 (by omega) hk
  simpa [goes] using this

theorem regress_go (x : Int) (l : List Int) (hl : l.length ≤ 1000) (d : Nat) : ∀ (k i : Nat) (acc : List Int), i + d = l.length → d < k → acc.length ≤ i → footwayref13_Egress.l0 k x acc l (l.length : Int) (i : Int) = some (acc ++ (l.drop i).filter (fun y => !(y != x))) := by
  induction d with
  | zero =>
    intro k i acc hi hk _
    obtain ⟨k, rfl⟩ : ∃ m, k = m + 1 := ⟨k - 1, by omega⟩
    rw [footwayref13_Egress.l0, if_neg (by omega), List.drop_of_length_le (by omega)]
    simp
  | succ d ih =>
    intro k i acc hi hk ha
    obtain ⟨k, rfl⟩ : ∃ m, k = m + 1 := ⟨k - 1, by omega⟩
    have hil : i < l.length := by omega
    rw [footwayref13_Egress.l0, if_pos (by omega), if_pos (by omega), if_pos (by omega), rd_at hil, wrap_succ (by omega), List.drop_eq_getElem_cons hil, List.filter_cons]
    by_cases he : l[i] = x
    · rw [if_pos he, if_pos (by omega), ih k (i + 1) _ (by omega) (by omega) (by simp; omega), if_pos (by simp [he]), List.append_assoc]
      rfl
    · rw [if_neg he, ih k (i + 1) acc (by omega) (by omega) (by omega), if_neg (by simp [he])]

theorem rEgress_eq (l : List S60) (a a2 a3 : Int) (hl : l.length ≤ 12) (hy : whyN l a = 0) (hb : badE a2 a3 = false) (k : Nat) (hk : 100 < k) : footwayref13_Egress.f k l a a2 a3 = some (if a2 = 2 then [] else (if a2 = 1 ∨ a3 = -1 then goes l a l.length else (goes l a l.length).filter (fun y => !(y != a3)))) := by
  obtain ⟨h8, ho, ha0, ha1⟩ := why_parts hy
  have hg := goes_length l a l.length
  simp only [badE, Bool.or_eq_false_iff, decide_eq_false_iff_not] at hb
  obtain ⟨k, rfl⟩ : ∃ m, k = m + 1 := ⟨k - 1, by omega⟩
  unfold footwayref13_Egress.f
  by_cases h2 : a2 = 2
  · rw [if_pos h2, if_pos h2]
  · rw [if_neg h2, if_neg h2]
    by_cases h1 : a2 = 1
    · rw [if_pos h1, if_pos (.inl h1), footwayref13_Egress.j0, if_pos rfl, rFlood_eq l a (by omega) ha0 ha1 k (by omega)]
      rfl
    · rw [if_neg h1, footwayref13_Egress.j0]
      by_cases h3 : a3 = -1
      · rw [if_pos (decide_eq_true (by omega)), if_pos (.inr h3), rFlood_eq l a (by omega) ha0 ha1 k (by omega)]
        rfl
      · rw [if_neg (by simp; omega), if_neg (by omega), rFlood_eq l a (by omega) ha0 ha1 k (by omega)]
        simp only [Option.bind_some]
        have := regress_go a3 (goes l a l.length) (by omega) (goes l a l.length).length k 0 [] (by omega) (by omega) (by simp)
        simpa using this

theorem Takes_no {l : List S60} {a : Int} (hl : l.length ≤ 1000) (hy : ¬ whyN l a = 0) : relay_Takes.f l a = some (false, false, whyN l a) := by
  unfold relay_Takes.f relay_may.f
  rw [if_pos hl]
  simp only [Option.bind_some]
  rw [if_neg hy]

theorem Takes_yes {l : List S60} {a : Int} (hl : l.length ≤ 1000) (hy : whyN l a = 0) : relay_Takes.f l a = some (decide ((rd_T60 l a).f0 ≥ 2), (rd_T60 l a).f0 == 3, 0) := by
  obtain ⟨h8, ho, ha0, ha1⟩ := why_parts hy
  obtain ⟨hs0, hs1⟩ := state_ok hy ha0 ha1
  unfold relay_Takes.f relay_may.f
  rw [if_pos hl]
  simp only [Option.bind_some]
  rw [if_pos hy, if_pos ha0, if_pos ha1]
  unfold PRe.port_May.f
  by_cases h : (rd_T60 l a).f0 = 2
  · rw [if_pos h]
    simp [h]
  · rw [if_neg h]
    simp only [Option.bind_some]
    have e : decide ((rd_T60 l a).f0 ≥ 2) = ((rd_T60 l a).f0 == 3) := by
      by_cases h3 : (rd_T60 l a).f0 = 3
      · simp [h3]
      · rw [beq_eq_false_iff_ne.2 h3, decide_eq_false (by omega)]
    rw [e]

theorem RelayTells (l0 : List S60) (a a2 a3 : Int) : footwaylaw13_RelayTells.f 3000 l0 a a2 a3 = some true := by
  unfold footwaylaw13_RelayTells.f
  rw [few_eq]
  simp only [Option.bind_some]
  have hl : (l0.take 12).length ≤ 12 := by simp; omega
  generalize l0.take 12 = l at hl
  rw [Flood_eq l a (by omega), Why_eq l a (by omega) 3000 (by omega)]
  unfold relay_Egress.f
  rw [if_pos (by omega : l.length ≤ 1000)]
  by_cases hy : whyN l a = 0
  · obtain ⟨h8, ho, ha0, ha1⟩ := why_parts hy
    have hg := goes_length l a l.length
    rw [if_pos hy, if_pos hy, Takes_yes (by omega) hy, hy]
    have fin : ∀ (b : List Int) (e : Int), ((badE a2 a3 = true ∧ b = [] ∧ e = 1) ∨ (badE a2 a3 = false ∧ e = 0 ∧ b.length ≤ 12 ∧ footwayref13_Egress.f 2998 l a a2 a3 = some b)) → footwaylaw13_RelayTells.j0 3000 l a a2 a3 b e false = some true := by
      intro b e h
      rw [show (3000 : Nat) = 2999 + 1 from rfl, footwaylaw13_RelayTells.j0, if_neg (by decide)]
      have bad : badE a2 a3 = true → footwaylaw13_RelayTells.j1 2999 l a a2 a3 b e true = some true := by
        intro hb
        rcases h with ⟨_, rfl, rfl⟩ | ⟨hb', _⟩
        · rw [show (2999 : Nat) = 2998 + 1 from rfl, footwaylaw13_RelayTells.j1, if_pos rfl, alive_eq 2998 (by decide)]
          simp
        · rw [hb] at hb'; cases hb'
      have good : badE a2 a3 = false → footwaylaw13_RelayTells.j1 2999 l a a2 a3 b e false = some true := by
        intro hb
        rcases h with ⟨hb', _⟩ | ⟨_, rfl, hbl, hE⟩
        · rw [hb] at hb'; cases hb'
        · rw [show (2999 : Nat) = 2998 + 1 from rfl, footwaylaw13_RelayTells.j1, if_neg (by decide), alive_eq 2998 (by decide), hE]
          simp only [Option.bind_some, if_true]
          rw [Same_eq b b (by omega) 2998 (by omega)]
          simp
      by_cases c0 : a2 < 0
      · rw [if_pos c0]; exact bad (by simp [badE, c0])
      · rw [if_neg c0]
        by_cases c1 : a2 > 2
        · rw [if_pos c1]; exact bad (by simp [badE]; omega)
        · rw [if_neg c1]
          by_cases c2 : a3 < -1
          · rw [if_pos c2]; exact bad (by simp [badE]; omega)
          · rw [if_neg c2]
            by_cases c3 : a3 > 7
            · rw [decide_eq_true c3]; exact bad (by simp [badE]; omega)
            · rw [decide_eq_false c3]; exact good (by simp [badE]; omega)
    have step : ∀ (b : List Int) (e : Int), footwaylaw13_RelayTells.j0 3000 l a a2 a3 b e false = some true → (if (0 : Int) = 0 then (if (0 : Int) = 0 then (if (0 : Int) = 0 then ((footwayref13_Flood.f 3000 l a).bind fun t237 => ((footwayref06_Same.f 3000 (goes l a l.length) t237).bind fun t240 => (if t240 = true then (if 0 ≤ a then (if a < (l.length : Int) then (if ((decide ((rd_T60 l a).f0 ≥ 2)) != (decide (((rd_T60 l a).f0) ≥ 2))) = true then (footwaylaw13_RelayTells.j0 3000 l a a2 a3 b e true) else (footwaylaw13_RelayTells.j0 3000 l a a2 a3 b e (((rd_T60 l a).f0 == 3) != (((rd_T60 l a).f0) == 3)))) else (none)) else (none)) else (footwaylaw13_RelayTells.j0 3000 l a a2 a3 b e true)))) else (footwaylaw13_RelayTells.j0 3000 l a a2 a3 b e true)) else (footwaylaw13_RelayTells.j0 3000 l a a2 a3 b e true)) else none) = some true := by
      intro b e h
      rw [if_pos rfl, if_pos rfl, if_pos rfl, rFlood_eq l a (by omega) ha0 ha1 3000 (by omega)]
      simp only [Option.bind_some]
      rw [Same_eq _ _ (by omega) 3000 (by omega)]
      simp only [Option.bind_some, decide_true, if_true]
      rw [if_pos ha0, if_pos ha1, if_neg (by simp), bne_self_eq_false]
      exact h
    by_cases hb : badE a2 a3 = true
    · rw [if_pos hb]
      have := step [] 1 (fin [] 1 (.inl ⟨hb, rfl, rfl⟩))
      simpa using this
    · rw [if_neg hb]
      have hb' : badE a2 a3 = false := by simpa using hb
      have hE := rEgress_eq l a a2 a3 hl hy hb' 2998 (by decide)
      have hfl := List.length_filter_le (fun y => !(y != a3)) (goes l a l.length)
      by_cases h2 : a2 = 2
      · rw [if_pos h2] at hE ⊢
        have := step [] 0 (fin [] 0 (.inr ⟨hb', rfl, by simp, hE⟩))
        simpa using this
      · rw [if_neg h2] at hE ⊢
        by_cases h1 : a2 = 1 ∨ a3 = -1
        · rw [if_pos h1] at hE ⊢
          have := step _ 0 (fin _ 0 (.inr ⟨hb', rfl, by omega, hE⟩))
          simpa using this
        · rw [if_neg h1] at hE ⊢
          have := step _ 0 (fin _ 0 (.inr ⟨hb', rfl, by omega, hE⟩))
          simpa using this
  · rw [if_neg hy, if_neg hy, Takes_no (by omega) hy, alive_eq 3000 (by decide)]
    simp [hy]
end Go.Proofs.Ytnkkedkkjmehpaa.Pure
