/- Proved: QueueTells as a plain statement. -/
import Derived.Test.YtnkkedkkjmehpaaPQuy0
namespace Go.Proofs.Ytnkkedkkjmehpaa.PureT
open Go.RowKit Go.Proofs.Ytnkkedkkjmehpaa.EQu Go.Proofs.Ytnkkedkkjmehpaa.PQu Go.Proofs.YtnkkedkkjmehpaaW.PrintWords Go.Proofs.YtnkkedkkjmehpaaW.PrintLast
set_option linter.unusedVariables false
set_option linter.unusedSimpArgs false

theorem q_succ {i : Nat} (h : i < 1000000) : wrap64 ((i : Int) + 1) = ((i + 1 : Nat) : Int) := by unfold wrap64; omega
theorem mn_le (a b : Int) : mn a b ≤ a ∧ mn a b ≤ b := by unfold mn; split <;> omega
theorem mn_0 {a b : Int} (ha : 0 ≤ a) (hb : 0 ≤ b) : 0 ≤ mn a b := by unfold mn; split <;> omega

theorem rowsq_go (xs : List ByteArray) (hx : xs.length ≤ 1000) (d : Nat) : ∀ (i k : Nat), i + d = xs.length → d < k → footwayref09_Rows.l0 k xs xs (xs.length : Int) (i : Int) = some true := by
  induction d with
  | zero =>
    intro i k hi hk
    obtain ⟨k, rfl⟩ : ∃ m, k = m + 1 := ⟨k - 1, by omega⟩
    rw [footwayref09_Rows.l0, if_neg (by omega)]
  | succ d ih =>
    intro i k hi hk
    obtain ⟨k, rfl⟩ : ∃ m, k = m + 1 := ⟨k - 1, by omega⟩
    rw [footwayref09_Rows.l0, if_pos (by omega), if_pos (by omega), if_pos (by omega), if_pos (by omega), if_pos rfl, q_succ (by omega)]
    exact ih (i + 1) k (by omega) (by omega)
theorem sameq (n : Int) (xs : List ByteArray) (lost : Int) (hx : xs.length ≤ 1000) (k : Nat) (hk : xs.length < k) : footwayref09_Same.f k n xs lost n xs lost = some true := by
  unfold footwayref09_Same.f footwayref09_Rows.f
  rw [if_pos rfl, if_pos rfl, if_pos rfl]
  have h := rowsq_go xs hx xs.length 0 k (by omega) hk
  have e : ((0 : Nat) : Int) = 0 := rfl
  rw [e] at h
  rw [h]
  rfl

theorem few_go (l xs : List ByteArray) (hx : xs.length ≤ 40) (cap lost : Int) (d : Nat) : ∀ (i k : Nat) (acc : List ByteArray), i + d = xs.length → d < k → acc.length = i →
    ∃ l', l'.length ≤ 40 ∧ footwaylaw09_few.l0 k acc xs (xs.length : Int) (i : Int) cap l lost = some (cap, l', lost) := by
  induction d with
  | zero =>
    intro i k acc hi hk ha
    obtain ⟨k, rfl⟩ : ∃ m, k = m + 1 := ⟨k - 1, by omega⟩
    exact ⟨acc, by omega, by rw [footwaylaw09_few.l0, if_neg (by omega)]⟩
  | succ d ih =>
    intro i k acc hi hk ha
    obtain ⟨k, rfl⟩ : ∃ m, k = m + 1 := ⟨k - 1, by omega⟩
    rw [footwaylaw09_few.l0, if_pos (by omega), if_pos (by omega), if_pos (by omega)]
    generalize rdOf ByteArray.empty xs (i : Int) = s
    have h1 := mn_le (s.size : Int) 130
    have h2 := mn_0 (a := (s.size : Int)) (b := 130) (by omega) (by omega)
    rw [if_pos h2, if_pos h1.1, if_pos (by omega), q_succ (by omega)]
    exact ih (i + 1) k _ (by omega) (by omega) (by simp; omega)

theorem few (l : List ByteArray) (cap lost : Int) (k : Nat) (hk : 50 ≤ k) : ∃ l', l'.length ≤ 40 ∧ footwaylaw09_few.f k cap l lost = some (cap, l', lost) := by
  unfold footwaylaw09_few.f
  have h1 := mn_le (l.length : Int) 40
  have h2 := mn_0 (a := (l.length : Int)) (b := 40) (by omega) (by omega)
  rw [if_pos h2, if_pos h1.1]
  simp only [Option.bind_some]
  have hl : (l.take (mn (l.length : Int) 40).toNat).length ≤ 40 := by simp; omega
  generalize l.take (mn (l.length : Int) 40).toNat = xs at hl
  exact few_go l xs hl cap lost xs.length 0 k [] (by omega) (by omega) rfl

theorem right_go (l : List ByteArray) (hl : l.length ≤ 40) (cap lost : Int) (d : Nat) : ∀ (i k : Nat), i + d = l.length → d < k → (∀ x ∈ l.take i, longB x = false) →
    footwayref09_Right.l0 k l (l.length : Int) (i : Int) cap l lost = some (rightQ cap l lost) := by
  induction d with
  | zero =>
    intro i k hi hk ha
    obtain ⟨k, rfl⟩ : ∃ m, k = m + 1 := ⟨k - 1, by omega⟩
    have e : l.any longB = false := by
      rw [List.any_eq_false]
      intro x hx
      rw [ha x (by rw [List.take_of_length_le (by omega)]; exact hx)]
      decide
    rw [footwayref09_Right.l0, if_neg (by omega)]
    simp only [rightQ, e]
    by_cases h1 : cap ≥ 1
    · rw [if_pos h1]
      by_cases h2 : cap ≤ 32
      · rw [if_pos h2]
        by_cases h3 : (l.length : Int) ≤ cap
        · rw [if_pos h3]
          by_cases h4 : lost ≥ 0
          · rw [if_pos h4]
            simp [h2, h3, show (1 : Int) ≤ cap from h1, show (0 : Int) ≤ lost from h4]
          · rw [if_neg h4]; simp [show ¬ (0 : Int) ≤ lost from h4]
        · rw [if_neg h3]; simp [h3]
      · rw [if_neg h2]; simp [h2]
    · rw [if_neg h1]; simp [show ¬ (1 : Int) ≤ cap from h1]
  | succ d ih =>
    intro i k hi hk ha
    obtain ⟨k, rfl⟩ : ∃ m, k = m + 1 := ⟨k - 1, by omega⟩
    rw [footwayref09_Right.l0, if_pos (by omega), if_pos (by omega), if_pos (by omega)]
    have hi' : i < l.length := by omega
    have e : rdOf ByteArray.empty l (i : Int) = l[i] := by
      simp [rdOf, List.getD_eq_getElem?_getD, List.getElem?_eq_getElem hi']
    rw [e]
    by_cases h : ((l[i]).size : Int) > 114
    · rw [if_pos h]
      have e : l.any longB = true := List.any_eq_true.2 ⟨l[i], List.getElem_mem hi', by simp [longB]; omega⟩
      simp [rightQ, e]
    · rw [if_neg h, q_succ (by omega)]
      refine ih (i + 1) k (by omega) (by omega) fun x hx => ?_
      rw [List.take_succ_eq_append_getElem hi'] at hx
      rcases List.mem_append.1 hx with hx | hx
      · exact ha x hx
      · simp at hx; subst hx; simp [longB]; omega
theorem right (l : List ByteArray) (hl : l.length ≤ 40) (cap lost : Int) (k : Nat) (hk : 50 ≤ k) : footwayref09_Right.f k cap l lost = some (rightQ cap l lost) := by
  unfold footwayref09_Right.f
  exact right_go l hl cap lost l.length 0 k (by omega) (by omega) (by simp)

theorem push_any (cap : Int) (l : List ByteArray) (lost : Int) (s : ByteArray) (hl : l.length ≤ 40) (k : Nat) (hk : 0 < k) :
    queue_Push.f k cap l lost s = if rightQ cap l lost = true ∧ ¬ (s.size : Int) > 114 then
      (if (l.length : Int) = cap then some (cap, l, mn (wrap64 (lost + 1)) 1000000, false, 0) else some (cap, l ++ [s], lost, true, 0)) else some (0, [], 0, false, 1) := by
  obtain ⟨k, rfl⟩ : ∃ m, k = m + 1 := ⟨k - 1, by omega⟩
  unfold queue_Push.f queue_Right.f
  rw [if_pos (by omega)]
  simp only [Option.bind_some]
  cases hR : rightQ cap l lost with
  | false => simp [queue_Push.j0]
  | true =>
    rw [if_pos rfl, queue_Push.j0]
    by_cases hs : (s.size : Int) > 114
    · rw [decide_eq_true hs, if_pos rfl, if_neg (by simp only [not_and]; intro _; exact not_not_intro hs)]
    · rw [decide_eq_false hs, if_neg (by decide), if_pos (show true = true ∧ ¬ (s.size : Int) > 114 from ⟨rfl, hs⟩)]
      by_cases hc : (l.length : Int) = cap
      · rw [if_pos hc, if_pos hc]
        simp [queue_lose.f]
      · rw [if_neg hc, if_neg hc]
        simp only [queue_passed.f]
        rw [if_pos (by omega)]
        rfl

theorem aliveq (k : Nat) (hk : 0 < k) : footwaylaw09_alive.f k = some true := by
  unfold footwaylaw09_alive.f
  have e0 : queue_New.f 1 = some (1, [], 0, 0) := rfl
  rw [e0]
  simp only [Option.bind_some]
  have r1 : rightQ 1 [] 0 = true := by simp [rightQ]
  rw [push_any 1 [] 0 (⟨#[97]⟩ : ByteArray) (by simp) k hk, if_pos ⟨r1, by decide⟩, if_neg (by simp)]
  simp only [Option.bind_some]
  have r2 : rightQ 1 ([] ++ [(⟨#[97]⟩ : ByteArray)]) 0 = true := by
    have : longB (⟨#[97]⟩ : ByteArray) = false := by decide
    simp [rightQ, this]
  rw [push_any 1 _ 0 (⟨#[98]⟩ : ByteArray) (by simp) k hk, if_pos ⟨r2, by decide⟩, if_pos (by simp)]
  simp [mn, wrap64]

theorem j4 (k : Nat) (hk : 50 < k) (s : ByteArray) (cap : Int) (l : List ByteArray) (lost : Int) (hl : l.length ≤ 40) (hR : rightQ cap l lost = true) (b : Int × List ByteArray × Int × Bool × Int) (hb : queue_Push.f k cap l lost s = some b) :
    footwaylaw09_QueueTells.j4 (k + 1) s b.2.2.2.1 b.2.2.2.2 cap l lost b.1 b.2.1 b.2.2.1 0 0 = some true := by
  rw [push_any cap l lost s hl k (by omega)] at hb
  rw [footwaylaw09_QueueTells.j4]
  by_cases hs : (s.size : Int) > 114
  · rw [if_neg (by simp only [not_and]; intro _; exact not_not_intro hs)] at hb
    cases hb
    rw [if_pos hs, if_pos rfl, if_neg (by decide), sameq 0 [] 0 (by simp) k (by simp; omega)]
    rfl
  · rw [if_pos ⟨hR, hs⟩] at hb
    rw [if_neg hs]
    unfold footwayref09_Push.f
    by_cases hc : (l.length : Int) = cap
    · rw [if_pos hc] at hb ⊢
      cases hb
      simp only [Option.bind_some]
      rw [if_pos trivial, if_pos (by decide), sameq _ l _ (by omega) k (by omega)]
      rfl
    · rw [if_neg hc] at hb ⊢
      cases hb
      simp only [Option.bind_some, List.nil_append, List.length_nil]
      rw [if_pos (by omega), if_pos (by omega)]
      simp only [Option.bind_some]
      rw [if_pos trivial, if_pos (by decide), sameq _ (l ++ [s]) _ (by simp; omega) k (by simp; omega)]
      rfl

theorem j01 (k : Nat) (hk : 50 < k) (a0 na ne : Int) (hn1 : (a0 < 1 ∨ a0 > 32) → ne = 2 ∧ na = 0) (hn2 : ¬ (a0 < 1 ∨ a0 > 32) → ne = 0 ∧ na = a0)
    {s : ByteArray} {x10 : Bool} {x11 : Int} {x13 : ByteArray} {x14 x16 x17 c0 : Int} {c1 : List ByteArray} {c2 d0 : Int} {d1 : List ByteArray} {d2 e0 : Int} {e1 : List ByteArray} {e2 g0 : Int} {g1 : List ByteArray} {g2 : Int}
    (key : footwaylaw09_QueueTells.j2 k s x10 x11 x13 x14 x16 x17 c0 c1 c2 d0 d1 d2 e0 e1 e2 g0 g1 g2 0 0 = some true) :
    footwaylaw09_QueueTells.j0 (k + 1 + 1) a0 s ne x10 x11 x13 x14 x16 x17 false c0 c1 c2 na [] 0 d0 d1 d2 e0 e1 e2 g0 g1 g2 0 0 = some true := by
  rw [footwaylaw09_QueueTells.j0, if_neg (by decide)]
  by_cases c1 : a0 < 1
  · obtain ⟨rfl, rfl⟩ := hn1 (.inl c1)
    rw [if_pos c1, footwaylaw09_QueueTells.j1, if_pos rfl, if_pos rfl, sameq 0 [] 0 (by simp) _ (by simp; omega)]
    simp only [Option.bind_some, if_true]
    exact key
  · rw [if_neg c1]
    by_cases c2 : a0 > 32
    · obtain ⟨rfl, rfl⟩ := hn1 (.inr c2)
      rw [decide_eq_true c2, footwaylaw09_QueueTells.j1, if_pos rfl, if_pos rfl, sameq 0 [] 0 (by simp) _ (by simp; omega)]
      simp only [Option.bind_some, if_true]
      exact key
    · obtain ⟨rfl, rfl⟩ := hn2 (by omega)
      rw [decide_eq_false c2, footwaylaw09_QueueTells.j1, if_neg (by decide), if_pos rfl, sameq _ [] 0 (by simp) _ (by simp; omega)]
      simp only [Option.bind_some, if_true]
      exact key

theorem QueueTells (a0 a1_0 : Int) (l1_1 : List ByteArray) (a1_2 : Int) (a2 : ByteArray) : footwaylaw09_QueueTells.f 2000 a0 a1_0 l1_1 a1_2 a2 = some true := by
  unfold footwaylaw09_QueueTells.f
  obtain ⟨l, hl, hf⟩ := few l1_1 a1_0 a1_2 2000 (by omega)
  rw [hf]
  simp only [Option.bind_some]
  have h1 := mn_le (a2.size : Int) 130
  have h2 := mn_0 (a := (a2.size : Int)) (b := 130) (by omega) (by omega)
  rw [if_pos h2, if_pos h1.1]
  generalize a2.extract 0 (mn (a2.size : Int) 130).toNat = s
  have hal := aliveq 2000 (by omega)
  have hr : queue_Right.f a1_0 l a1_2 = some (rightQ a1_0 l a1_2) := by unfold queue_Right.f; rw [if_pos (by omega)]
  have hnew : ∃ a e, queue_New.f a0 = some (a, [], 0, e) ∧ ((a0 < 1 ∨ a0 > 32) → e = 2 ∧ a = 0) ∧ (¬ (a0 < 1 ∨ a0 > 32) → e = 0 ∧ a = a0) := by
    unfold queue_New.f
    by_cases h1 : a0 < 1
    · exact ⟨0, 2, by rw [if_pos h1], fun _ => ⟨rfl, rfl⟩, fun h => absurd (.inl h1) h⟩
    · by_cases h2 : a0 > 32
      · exact ⟨0, 2, by rw [if_neg h1, if_pos h2], fun _ => ⟨rfl, rfl⟩, fun h => absurd (.inr h2) h⟩
      · exact ⟨a0, 0, by rw [if_neg h1, if_neg h2], fun h => absurd h (by omega), fun _ => ⟨rfl, rfl⟩⟩
  obtain ⟨na, ne, hn, hn1, hn2⟩ := hnew
  rw [hn]
  simp only [Option.bind_some]
  have hpush := push_any a1_0 l a1_2 s hl
  obtain ⟨b, hb⟩ : ∃ b, ∀ k, 0 < k → queue_Push.f k a1_0 l a1_2 s = some b := by
    by_cases hc : rightQ a1_0 l a1_2 = true ∧ ¬ (s.size : Int) > 114
    · by_cases hc2 : (l.length : Int) = a1_0
      · exact ⟨_, fun k hk => by rw [hpush k hk, if_pos hc, if_pos hc2]⟩
      · exact ⟨_, fun k hk => by rw [hpush k hk, if_pos hc, if_neg hc2]⟩
    · exact ⟨_, fun k hk => by rw [hpush k hk, if_neg hc]⟩
  rw [hb 2000 (by omega)]
  simp only [Option.bind_some]
  cases hR : rightQ a1_0 l a1_2 with
  | false =>
    have hp : queue_Pop.f a1_0 l a1_2 = some (0, [], 0, (⟨#[]⟩ : ByteArray), 1) := by unfold queue_Pop.f; rw [hr, hR]; rfl
    have hc : queue_Clear.f a1_0 l a1_2 = some (0, [], 0, 0, 1) := by unfold queue_Clear.f; rw [hr, hR]; rfl
    have hb' : b = (0, [], 0, false, 1) := by
      have := hb 1 (by omega)
      rw [hpush 1 (by omega), hR, if_neg (by simp)] at this
      exact (Option.some.inj this).symm
    rw [hp, hc]
    simp only [Option.bind_some]
    rw [hr, right l hl a1_0 a1_2 2000 (by omega), hR]
    simp only [Option.bind_some]
    rw [if_neg (by decide), hal]
    simp only [Option.bind_some, Bool.not_true]
    refine j01 1998 (by omega) a0 na ne hn1 hn2 ?_
    rw [hb', show (1998 : Nat) = 1997 + 1 from rfl, footwaylaw09_QueueTells.j2, right l hl a1_0 a1_2 _ (by omega), hR]
    have e : ((⟨#[]⟩ : ByteArray).toList = ([] : List UInt8)) := by kernel_rfl
    simp [sameq 0 [] 0 (by simp) 1997 (by simp), e]
  | true =>
    have hc : queue_Clear.f a1_0 l a1_2 = some (a1_0, [], mn (wrap64 (a1_2 + (l.length : Int))) 1000000, (l.length : Int), 0) := by unfold queue_Clear.f; rw [hr, hR]; rfl
    -- popped
    have h3 : ∀ p : Int × List ByteArray × Int × ByteArray × Int, queue_Pop.f a1_0 l a1_2 = some p →
        footwaylaw09_QueueTells.j3 1997 s b.2.2.2.1 b.2.2.2.2 p.2.2.2.1 p.2.2.2.2 false a1_0 l a1_2 b.1 b.2.1 b.2.2.1 p.1 p.2.1 p.2.2.1 0 0 = some true := by
      intro p hp
      unfold queue_Pop.f at hp
      rw [hr, hR] at hp
      simp only [Option.bind_some, if_true] at hp
      have h4 := j4 1995 (by omega) s a1_0 l a1_2 hl hR b (hb _ (by omega))
      rw [show (1997 : Nat) = 1996 + 1 from rfl, footwaylaw09_QueueTells.j3, if_neg (by decide)]
      by_cases hz : (l.length : Int) = 0
      · rw [if_pos hz] at hp ⊢
        cases hp
        have e : ((⟨#[]⟩ : ByteArray).toList = ([] : List UInt8)) := by kernel_rfl
        rw [if_pos rfl, if_pos e, sameq 0 [] 0 (by simp) _ (by simp)]
        simp only [Option.bind_some, if_true]
        exact h4
      · rw [if_neg hz] at hp ⊢
        rw [if_pos (show (0 : Int) < (l.length : Int) by omega), if_pos (show (1 : Int) ≤ (l.length : Int) by omega)] at hp
        cases hp
        rw [if_pos rfl, if_pos (show (0 : Int) < (l.length : Int) by omega), if_pos rfl, if_pos (show (1 : Int) ≤ (l.length : Int) by omega), sameq _ (l.drop 1) _ (by simp; omega) _ (by simp; omega)]
        simp only [Option.bind_some, if_true]
        exact h4
    obtain ⟨p, hp⟩ : ∃ p, queue_Pop.f a1_0 l a1_2 = some p := by
      unfold queue_Pop.f
      rw [hr, hR]
      simp only [Option.bind_some, if_true]
      by_cases hz : (l.length : Int) = 0
      · exact ⟨_, by rw [if_pos hz]⟩
      · exact ⟨_, by rw [if_neg hz, if_pos (show (0 : Int) < (l.length : Int) by omega), if_pos (show (1 : Int) ≤ (l.length : Int) by omega)]⟩
    rw [hp, hc]
    simp only [Option.bind_some]
    rw [hr, right l hl a1_0 a1_2 2000 (by omega), hR]
    simp only [Option.bind_some]
    rw [if_neg (by decide), hal]
    simp only [Option.bind_some, Bool.not_true]
    refine j01 1998 (by omega) a0 na ne hn1 hn2 ?_
    rw [show (1998 : Nat) = 1997 + 1 from rfl, footwaylaw09_QueueTells.j2, right l hl a1_0 a1_2 _ (by omega), hR]
    simp only [Option.bind_some, if_true, footwayref09_Clear.f]
    rw [sameq _ [] _ (by simp) _ (by simp)]
    simp only [Option.bind_some, Bool.not_true]
    exact h3 p hp
end Go.Proofs.Ytnkkedkkjmehpaa.PureT
