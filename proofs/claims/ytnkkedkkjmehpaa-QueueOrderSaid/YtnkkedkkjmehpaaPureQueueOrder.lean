/- Proved: QueueOrder as a plain statement. -/
import Derived.Test.YtnkkedkkjmehpaaPQux2
namespace Go.Proofs.Ytnkkedkkjmehpaa.Pure
open Go.RowKit Go.Proofs.Ytnkkedkkjmehpaa.EQu Go.Proofs.Ytnkkedkkjmehpaa.PQu Go.Proofs.YtnkkedkkjmehpaaW.PrintWords Go.Proofs.YtnkkedkkjmehpaaW.PrintLast
set_option linter.unusedVariables false
set_option linter.unusedSimpArgs false

theorem q_succ {i : Nat} (h : i < 1000000) : wrap64 ((i : Int) + 1) = ((i + 1 : Nat) : Int) := by unfold wrap64; omega

theorem mod8 (v : Int) : 0 ≤ Int.tmod (wrap64 ((Int.tmod v 8) + 8)) 8 ∧ Int.tmod (wrap64 ((Int.tmod v 8) + 8)) 8 < 8 := by
  have h1 : -8 < Int.tmod v 8 := by
    have e := Int.neg_tmod v 8
    have := Int.tmod_lt_of_pos (-v) (show (0 : Int) < 8 by decide)
    omega
  have h2 : Int.tmod v 8 < 8 := Int.tmod_lt_of_pos v (by decide)
  have e : wrap64 (Int.tmod v 8 + 8) = Int.tmod v 8 + 8 := by unfold wrap64; omega
  rw [e]
  exact ⟨Int.tmod_nonneg 8 (by omega), Int.tmod_lt_of_pos _ (by decide)⟩

/-- The queue is in shape. -/
def Fit (n : Int) (xs : List ByteArray) (lost : Int) : Prop := 1 ≤ n ∧ n ≤ 8 ∧ (xs.length : Int) ≤ n ∧ (∀ x ∈ xs, x.size ≤ 114) ∧ 0 ≤ lost ∧ lost ≤ 1000000

theorem Right_fit {n : Int} {xs : List ByteArray} {lost : Int} (h : Fit n xs lost) : queue_Right.f n xs lost = some true := by
  obtain ⟨h1, h2, h3, h4, h5, h6⟩ := h
  unfold queue_Right.f
  rw [if_pos (by omega)]
  have e : xs.any longB = false := by
    rw [List.any_eq_false]
    intro x hx
    have := h4 x hx
    simp [longB]; omega
  simp only [rightQ, e, Option.some.injEq]
  simp only [Bool.not_false, Bool.true_and, Bool.and_eq_true, decide_eq_true_eq]
  omega

theorem rowsq_go (xs : List ByteArray) (hx : xs.length ≤ 1000) (d : Nat) : ∀ (i k : Nat), i + d = xs.length → d < k → footwayref09_Rows.l0 k xs xs (xs.length : Int) (i : Int) = some true := by
  induction d with
  | zero =>
    intro i k hi hk
    obtain ⟨k, rfl⟩ : ∃ m, k = m + 1 := ⟨k - 1, by omega⟩
    rw [footwayref09_Rows.l0, if_neg (by omega)]
  | succ d ih =>
    intro i k hi hk
    obtain ⟨k, rfl⟩ : ∃ m, k = m + 1 := ⟨k - 1, by omega⟩
    rw [footwayref09_Rows.l0, if_pos (by omega), if_pos (by omega), if_pos (by omega), if_pos (by omega), if_pos rfl, q_succ (by omega)]
    exact ih (i + 1) k (by omega) (by omega)

theorem rowsq (xs : List ByteArray) (hx : xs.length ≤ 1000) (k : Nat) (hk : xs.length < k) : footwayref09_Rows.f k xs xs = some true := by
  unfold footwayref09_Rows.f
  rw [if_pos rfl]
  exact rowsq_go xs hx xs.length 0 k (by omega) hk

theorem mnq {a : Int} (h : a ≤ 1000000) : mn a 1000000 = a := by unfold mn; split <;> omega

theorem Push_fit {n : Int} {xs : List ByteArray} {lost : Int} (h : Fit n xs lost) (s : ByteArray) (hs : s.size ≤ 114) (hl : lost < 100000) (k : Nat) (hk : 0 < k) :
    queue_Push.f k n xs lost s = if (xs.length : Int) = n then some (n, xs, lost + 1, false, 0) else some (n, xs ++ [s], lost, true, 0) := by
  obtain ⟨k, rfl⟩ : ∃ m, k = m + 1 := ⟨k - 1, by omega⟩
  unfold queue_Push.f
  rw [Right_fit h]
  simp only [Option.bind_some, if_true]
  rw [queue_Push.j0]
  have hd : decide ((s.size : Int) > 114) = false := by simp; omega
  rw [hd, if_neg (by decide)]
  obtain ⟨h1, h2, h3, h4, h5, h6⟩ := h
  split
  · have e : wrap64 (lost + 1) = lost + 1 := by unfold wrap64; omega
    simp [queue_lose.f, e, mnq (show lost + 1 ≤ 1000000 by omega)]
  · simp only [queue_passed.f]
    rw [if_pos (by omega)]
    rfl

theorem aliveq (k : Nat) (hk : 0 < k) : footwaylaw09_alive.f k = some true := by
  unfold footwaylaw09_alive.f
  have e0 : queue_New.f 1 = some (1, [], 0, 0) := rfl
  rw [e0]
  simp only [Option.bind_some]
  have e1 := Push_fit (n := 1) (xs := []) (lost := 0) ⟨by omega, by omega, by simp, by simp, by omega, by omega⟩ (⟨#[97]⟩ : ByteArray) (by decide) (by omega) k hk
  rw [if_neg (by simp)] at e1
  rw [e1]
  simp only [Option.bind_some]
  have e2 := Push_fit (n := 1) (xs := [] ++ [(⟨#[97]⟩ : ByteArray)]) (lost := 0) ⟨by omega, by omega, by simp, by intro x hx; simp at hx; subst hx; decide, by omega, by omega⟩ (⟨#[98]⟩ : ByteArray) (by decide) (by omega) k hk
  rw [if_pos (by simp)] at e2
  rw [e2]
  simp

theorem order_j3 (l : List Int) (n : Int) (xs : List ByteArray) (lost : Int) (h : Fit n xs lost) (i : Nat) (hi : i < 1000) (k : Nat) (hk : 9 < k) (r : Option Bool)
    (ih : footwaylaw09_QueueOrder.l0 k n xs lost l (l.length : Int) ((i + 1 : Nat) : Int) n xs lost = r) :
    footwaylaw09_QueueOrder.j3 (k + 1) n xs lost l (l.length : Int) (i : Int) n xs lost = r := by
  have hh := h
  obtain ⟨h1, h2, h3, h4, h5, h6⟩ := h
  rw [footwaylaw09_QueueOrder.j3, rowsq xs (by omega) k (by omega)]
  simp only [Option.bind_some, if_true]
  rw [Right_fit hh, q_succ (by omega)]
  simpa using ih

theorem str2 (a b : Int) : (strOfNums [a, b]).size ≤ 114 := by
  simp [strOfNums, ByteArray.size]

theorem order_go (l : List Int) (n : Int) (hl : l.length ≤ 150) (d : Nat) :
    ∀ (i K : Nat) (xs : List ByteArray) (lost : Int), i + d = l.length → 50 + 4 * d ≤ K → Fit n xs lost → lost ≤ 8 * i → footwaylaw09_QueueOrder.l0 K n xs lost l (l.length : Int) (i : Int) n xs lost = some true := by
  induction d with
  | zero =>
    intro i K xs lost hi hK hF hlost
    obtain ⟨k, rfl⟩ : ∃ m, K = m + 1 := ⟨K - 1, by omega⟩
    rw [footwaylaw09_QueueOrder.l0, if_neg (by omega), aliveq k (by omega)]
    rfl
  | succ d ih =>
    intro i K xs lost hi hK hF hlost
    obtain ⟨k, rfl⟩ : ∃ m, K = m + 4 := ⟨K - 4, by omega⟩
    have hFF := hF
    obtain ⟨h1, h2, h3, h4, h5, h6⟩ := hFF
    rw [show k + 4 = (k + 3) + 1 from rfl, footwaylaw09_QueueOrder.l0, if_pos (by omega), if_pos (by omega), if_pos (by omega)]
    generalize rd l (i : Int) = v
    have hm1 := (mod8 v).1
    generalize Int.tmod (wrap64 ((Int.tmod v 8) + 8)) 8 = m at hm1
    have pop : footwaylaw09_QueueOrder.j1 (k + 3) n xs lost (i : Int) v l (l.length : Int) (i : Int) true n xs lost = some true := by
      rw [show k + 3 = (k + 2) + 1 from rfl, footwaylaw09_QueueOrder.j1, if_pos rfl]
      unfold queue_Pop.f
      rw [Right_fit hF]
      simp only [Option.bind_some, if_true]
      by_cases h0 : (xs.length : Int) = 0
      · rw [if_pos h0]
        simp only [Option.bind_some]
        rw [if_pos h0, if_pos trivial, q_succ (by omega)]
        exact ih (i + 1) (k + 2) xs lost (by omega) (by omega) hF (by omega)
      · rw [if_neg h0, if_pos (by omega), if_pos (by omega)]
        simp only [Option.bind_some]
        rw [if_neg h0, if_pos trivial, if_pos (by omega), if_pos trivial, if_pos (by omega)]
        have hF' : Fit n (xs.drop 1) lost := ⟨h1, h2, by simp; omega, fun x hx => h4 x (List.mem_of_mem_drop hx), h5, h6⟩
        exact order_j3 l n (xs.drop 1) lost hF' i (by omega) (k + 1) (by omega) _ (ih (i + 1) (k + 1) _ lost (by omega) (by omega) hF' (by omega))
    have push : footwaylaw09_QueueOrder.j1 (k + 3) n xs lost (i : Int) v l (l.length : Int) (i : Int) false n xs lost = some true := by
      rw [show k + 3 = (k + 2) + 1 from rfl, footwaylaw09_QueueOrder.j1, if_neg (by decide)]
      simp only [Option.bind_some]
      have hs := str2 ((i : Int) % 256) (v % 256)
      generalize strOfNums [(i : Int) % 256, v % 256] = s at hs
      rw [Push_fit hF s hs (by omega) (k + 2) (by omega)]
      by_cases hfull : (xs.length : Int) = n
      · rw [if_pos hfull]
        simp only [Option.bind_some, if_true]
        have hd : ((false : Bool) != decide ((xs.length : Int) < n)) = false := by
          rw [decide_eq_false (by omega)]; rfl
        rw [hd, show k + 2 = (k + 1) + 1 from rfl, footwaylaw09_QueueOrder.j2, if_neg (by decide), if_neg (by decide)]
        have e : wrap64 (lost + 1) = lost + 1 := by unfold wrap64; omega
        rw [e]
        have hF' : Fit n xs (lost + 1) := ⟨h1, h2, h3, h4, by omega, by omega⟩
        exact order_j3 l n xs (lost + 1) hF' i (by omega) k (by omega) _ (ih (i + 1) k _ (lost + 1) (by omega) (by omega) hF' (by omega))
      · rw [if_neg hfull]
        simp only [Option.bind_some, if_true]
        have hd : ((true : Bool) != decide ((xs.length : Int) < n)) = false := by
          rw [decide_eq_true (by omega)]; rfl
        rw [hd, show k + 2 = (k + 1) + 1 from rfl, footwaylaw09_QueueOrder.j2, if_neg (by decide), if_pos rfl, if_pos (by omega)]
        have hF' : Fit n (xs ++ [s]) lost := ⟨h1, h2, by simp; omega, by
          intro x hx
          rcases List.mem_append.1 hx with hx | hx
          · exact h4 x hx
          · simp at hx; subst hx; exact hs, h5, h6⟩
        exact order_j3 l n (xs ++ [s]) lost hF' i (by omega) k (by omega) _ (ih (i + 1) k _ lost (by omega) (by omega) hF' (by omega))
    by_cases m0 : m = 0
    · rw [if_pos m0]
      unfold queue_Clear.f
      rw [Right_fit hF]
      simp only [Option.bind_some, if_true, queue_lose.f]
      have e : wrap64 (lost + (xs.length : Int)) = lost + (xs.length : Int) := by unfold wrap64; omega
      rw [e, mnq (by omega)]
      have hF' : Fit n [] (lost + (xs.length : Int)) := ⟨h1, h2, by simp; omega, by simp, by omega, by omega⟩
      exact order_j3 l n [] (lost + (xs.length : Int)) hF' i (by omega) (k + 2) (by omega) _ (ih (i + 1) (k + 2) _ _ (by omega) (by omega) hF' (by omega))
    · rw [if_neg m0]
      by_cases m1 : m = 1
      · rw [if_pos m1, m1]; exact pop
      · rw [if_neg m1]
        by_cases m2 : m = 2
        · rw [if_pos m2, m2]; exact pop
        · rw [if_neg m2]
          by_cases m3 : m = 3
          · rw [m3]; exact pop
          · have e : (m == 3) = false := by simpa using m3
            rw [e]; exact push

theorem QueueOrder : footwaylaw09_QueueOrder.Pure := by
  intro a0 l1 _ _ _ _
  refine ⟨3000, ?_⟩
  unfold footwaylaw09_QueueOrder.f
  obtain ⟨hq1, hq2⟩ := mod8 a0
  generalize Int.tmod (wrap64 ((Int.tmod a0 8) + 8)) 8 = q at hq1 hq2
  have hn1 : 1 ≤ wrap64 (1 + q) := by unfold wrap64; omega
  have hn2 : wrap64 (1 + q) ≤ 8 := by unfold wrap64; omega
  generalize wrap64 (1 + q) = n at hn1 hn2
  unfold queue_New.f
  rw [if_neg (by omega), if_neg (by omega)]
  simp only [Option.bind_some, if_true]
  have hm : 0 ≤ mn (l1.length : Int) 150 ∧ mn (l1.length : Int) 150 ≤ l1.length ∧ mn (l1.length : Int) 150 ≤ 150 := by unfold mn; split <;> omega
  rw [if_pos hm.1, if_pos hm.2.1]
  have hl : (l1.take (mn (l1.length : Int) 150).toNat).length ≤ 150 := by simp; omega
  generalize l1.take (mn (l1.length : Int) 150).toNat = l at hl
  exact order_go l n hl l.length 0 3000 [] 0 (by omega) (by omega) ⟨hn1, hn2, by simp; omega, by simp, by omega, by omega⟩ (by omega)

end Go.Proofs.Ytnkkedkkjmehpaa.Pure
