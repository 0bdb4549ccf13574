/- Proved: the law LruUses as a plain statement: whoever is used, one after the other, the order is that of their last uses, those that were there behind them, as they were; for every two lists of numbers of 64 bits whose lengths the row's bound lets in. -/
import Derived.Test.YtnkkedkkjmehpaaQLru3
import Derived.Test.YtnkkedkkjmehpaaPLrux5
namespace Go.Proofs.Ytnkkedkkjmehpaa.Pure
open Go.RowKit Go.Proofs.Ytnkkedkkjmehpaa.ELru Go.Proofs.Ytnkkedkkjmehpaa.PLru Go.Proofs.Ytnkkedkkjmehpaa.QLru Go.Proofs.YtnkkedkkjmehpaaW.PrintWords Go.Proofs.YtnkkedkkjmehpaaW.PrintLast
set_option linter.unusedVariables false
set_option linter.unusedSimpArgs false

theorem nodup_le (n : Nat) : ∀ l : List Int, l.Nodup → (∀ x ∈ l, 0 ≤ x ∧ x < n) → l.length ≤ n := by
  induction n with
  | zero =>
    intro l _ h
    cases l with
    | nil => simp
    | cons x l => have := h x (by simp); omega
  | succ n ih =>
    intro l hn h
    by_cases hm : (n : Int) ∈ l
    · have h1 := wo_len hn hm
      have h2 := ih (wo l n) (hn.sublist (wo_sub _ _)) (fun x hx => by
        obtain ⟨hx1, hx2⟩ := wo_mem.1 hx
        have := h x hx1
        omega)
      omega
    · have := ih l hn (fun x hx => by
        have h1 := h x hx
        have : x ≠ (n : Int) := fun e => hm (e ▸ hx)
        omega)
      omega
theorem use_bounds (v : Int) : 0 ≤ Int.tmod (wrap64 (Int.tmod v 20 + 20)) 20 ∧ Int.tmod (wrap64 (Int.tmod v 20 + 20)) 20 < 20 := by
  have h1 : Int.tmod v 20 < 20 := Int.tmod_lt_of_pos v (by omega)
  have h2 : -20 < Int.tmod v 20 := by
    rcases Int.le_total 0 v with h | h
    · have := Int.tmod_nonneg 20 h; omega
    · have h3 := Int.neg_tmod (-v) 20
      rw [Int.neg_neg] at h3
      have h4 : Int.tmod (-v) 20 < 20 := Int.tmod_lt_of_pos (-v) (by omega)
      omega
  have hw : wrap64 (Int.tmod v 20 + 20) = Int.tmod v 20 + 20 := by unfold wrap64; omega
  rw [hw]
  exact ⟨Int.tmod_nonneg 20 (by omega), Int.tmod_lt_of_pos _ (by omega)⟩

/-- Those of l that are not on the list. -/
def rest (l last : List Int) : List Int := l.filter (fun x => !decide (x ∈ last))
theorem rest_mem {l last : List Int} {x : Int} : x ∈ rest l last ↔ x ∈ l ∧ x ∉ last := by simp [rest]
theorem rest_use (l last : List Int) (x : Int) : rest l (x :: wo last x) = wo (rest l last) x := by
  unfold rest wo
  rw [List.filter_filter]
  apply List.filter_congr
  intro y _
  by_cases h : y = x <;> simp [h]
theorem wo_append (a b : List Int) (x : Int) : wo (a ++ b) x = wo a x ++ wo b x := by simp [wo]

/-- What holds between two uses: of the list l as it came, and of those that were used. -/
structure Inv (l last : List Int) : Prop where
  nodup : last.Nodup
  low : ∀ x ∈ last, 0 ≤ x ∧ x < 20
theorem Inv.use {l last : List Int} (h : Inv l last) {x : Int} (h0 : 0 ≤ x) (h1 : x < 20) : Inv l (x :: wo last x) :=
  ⟨List.nodup_cons.2 ⟨fun hx => (wo_mem.1 hx).2 rfl, h.nodup.sublist (wo_sub _ _)⟩, fun y hy => by
    rcases List.mem_cons.1 hy with rfl | hy
    · exact ⟨h0, h1⟩
    · exact h.low y (wo_mem.1 hy).1⟩
theorem Inv.len {l last : List Int} (h : Inv l last) : last.length ≤ 20 := nodup_le 20 last h.nodup h.low
theorem rest_len (l last : List Int) : (rest l last).length ≤ l.length := List.length_filter_le _ _
theorem Inv.ok {l last : List Int} (h : Inv l last) (hl : l.length ≤ 40) (hok : Ok l) : Ok (last ++ rest l last) := by
  have h1 := h.len
  have h2 := rest_len l last
  refine ⟨by rw [List.length_append]; omega, ?_⟩
  rw [List.all_eq_true]
  intro x hx
  rcases List.mem_append.1 hx with hx | hx
  · have := h.low x hx
    simp [in64B]
    omega
  · exact List.all_eq_true.1 hok.2 x (rest_mem.1 hx).1
theorem Inv.right {l last : List Int} (h : Inv l last) (hl : l.length ≤ 40) (hr : rightB l = true) : rightB (last ++ rest l last) = true := by
  have h1 := h.len
  have h2 := rest_len l last
  rw [rightB_iff] at hr ⊢
  refine ⟨fun x hx => ?_, ?_, by rw [List.length_append]; omega⟩
  · rcases List.mem_append.1 hx with hx | hx
    · exact (h.low x hx).1
    · exact hr.1 x (rest_mem.1 hx).1
  · rw [List.nodup_append]
    exact ⟨h.nodup, hr.2.1.sublist List.filter_sublist, fun a ha b hb e => (rest_mem.1 hb).2 (e ▸ ha)⟩

theorem want_go (l last : List Int) (hl : l.length ≤ 40) (hlast : last.length ≤ 20) (x5 : List Int) (hx5 : x5.length ≤ 100) (d : Nat) : ∀ (k i : Nat) (acc : List Int), i + d = l.length → d + 200 < k → acc.length ≤ 20 + i → acc ++ rest (l.drop i) last = x5 →
    footwaylaw06_LruUses.l1 k x5 last acc l (l.length : Int) (i : Int) = some true := by
  induction d with
  | zero =>
    intro k i acc hi hk ha hx
    obtain ⟨k, rfl⟩ : ∃ m, k = m + 1 := ⟨k - 1, by omega⟩
    simp only [footwaylaw06_LruUses.l1]
    rw [if_neg (by omega), alive_eq k (by omega)]
    simp only [Option.bind_some, if_true]
    rw [List.drop_of_length_le (by omega)] at hx
    rw [Same_eq _ _ (by omega) k (by omega)]
    have : x5 = acc := by rw [← hx]; simp [rest]
    simp [this]
  | succ d ih =>
    intro k i acc hi hk ha hx
    obtain ⟨k, rfl⟩ : ∃ m, k = m + 1 := ⟨k - 1, by omega⟩
    have hil : i < l.length := by omega
    simp only [footwaylaw06_LruUses.l1]
    rw [if_pos (by omega), if_pos (by omega), if_pos (by omega), rd_at hil, wrap_succ (by omega), Has_eq _ (by omega) _ k (by omega)]
    simp only [Option.bind_some]
    rw [List.drop_eq_getElem_cons hil] at hx
    by_cases hm : l[i] ∈ last
    · rw [if_pos (by simpa using hm)]
      refine ih k (i + 1) acc (by omega) (by omega) (by omega) ?_
      rw [← hx]
      unfold rest
      rw [List.filter_cons_of_neg (by simp [hm])]
    · rw [if_neg (by simpa using hm), if_pos (by omega)]
      refine ih k (i + 1) _ (by omega) (by omega) (by simp; omega) ?_
      rw [← hx]
      unfold rest
      rw [List.filter_cons_of_pos (by simp [hm])]
      simp only [List.append_assoc, List.singleton_append]

theorem uses_go (l : List Int) (hl : l.length ≤ 40) (hok : Ok l) (hr : rightB l = true) (u : List Int) (hu : u.length ≤ 60) (d : Nat) : ∀ (k i : Nat) (last : List Int), i + d = u.length → d + 500 < k → Inv l last →
    footwaylaw06_LruUses.l0 k l (last ++ rest l last) last u (u.length : Int) (i : Int) = some true := by
  induction d with
  | zero =>
    intro k i last hi hk hI
    obtain ⟨k, rfl⟩ : ∃ m, k = m + 1 := ⟨k - 1, by omega⟩
    have h1 := hI.len
    have h2 := rest_len l last
    simp only [footwaylaw06_LruUses.l0]
    rw [if_neg (by omega)]
    simp only [Option.bind_some, List.nil_append, List.length_nil]
    rw [if_pos (by omega)]
    exact want_go l last hl h1 _ (by rw [List.length_append]; omega) l.length k 0 last (by omega) (by omega) (by omega) (by rw [List.drop_zero])
  | succ d ih =>
    intro k i last hi hk hI
    obtain ⟨k, rfl⟩ : ∃ m, k = m + 1 := ⟨k - 1, by omega⟩
    have hil : i < u.length := by omega
    have h1 := hI.len
    have h2 := rest_len l last
    obtain ⟨x0, x1⟩ := use_bounds (rd u (i : Int))
    have hin : in64B (Int.tmod (wrap64 (Int.tmod (rd u (i : Int)) 20 + 20)) 20) = true := by simp [in64B]; omega
    simp only [footwaylaw06_LruUses.l0]
    rw [if_pos (by omega), if_pos (by omega), if_pos (by omega), wrap_succ (by omega)]
    generalize Int.tmod (wrap64 (Int.tmod (rd u (i : Int)) 20 + 20)) 20 = x at x0 x1 hin
    have hok1 := hI.ok hl hok
    have hr1 := hI.right hl hr
    have hw1 := wo_le (last ++ rest l last) x
    have hn : (last ++ rest l last).length ≤ 60 := by rw [List.length_append]; omega
    have hI2 := hI.use x0 x1
    have e2 : x :: wo (last ++ rest l last) x = (x :: wo last x) ++ rest l (x :: wo last x) := by rw [rest_use, wo_append]; rfl
    have hok2 := hI2.ok hl hok
    have hr2 := hI2.right hl hr
    have e3 : wo (x :: wo (last ++ rest l last) x) x = wo (last ++ rest l last) x := by rw [wo_cons, if_pos rfl, wo_wo]
    rw [Use_eq hok1 x k (by omega), if_pos (show rightB (last ++ rest l last) = true ∧ 0 ≤ x from ⟨hr1, x0⟩), if_pos (show (wo (last ++ rest l last) x).length ≤ 63 by omega)]
    simp only [Option.bind_some]
    rw [Use_eq (e2 ▸ hok2) x k (by omega), if_pos (show rightB (x :: wo (last ++ rest l last) x) = true ∧ 0 ≤ x from ⟨e2 ▸ hr2, x0⟩), e3, if_pos (show (wo (last ++ rest l last) x).length ≤ 63 by omega)]
    simp only [Option.bind_some, if_true]
    rw [Same_eq _ _ (by simp; omega) k (by simp; omega)]
    simp only [Option.bind_some, decide_true, if_true]
    rw [RUse_eq last (by omega) x k (by omega)]
    simp only [Option.bind_some]
    rw [e2]
    exact ih k (i + 1) _ (by omega) (by omega) hI2

theorem LruUses : footwaylaw06_LruUses.Pure := by
  intro l0 l1 _ _ hw _ _ _
  refine ⟨3000, ?_⟩
  have hall : l0.all in64B = true := List.all_eq_true.2 fun x hx => in64_of_wf (hw x hx)
  have hok : Ok (l0.take 70) := Ok.take hall 70 (by omega)
  unfold footwaylaw06_LruUses.f
  rw [few_eq]
  simp only [Option.bind_some]
  generalize l0.take 70 = l at hok
  rw [Right_eq hok]
  simp only [Option.bind_some]
  by_cases hr : rightB l = true
  · rw [if_pos hr]
    by_cases hl : (l.length : Int) > 40
    · simp only [footwaylaw06_LruUses.j0]
      rw [if_pos (decide_eq_true hl), alive_eq _ (by omega)]
      rfl
    · simp only [footwaylaw06_LruUses.j0]
      rw [if_neg (by simpa using hl), if_pos (by unfold mn; split <;> omega), if_pos (by unfold mn; split <;> omega)]
      simp only [Option.bind_some]
      have hu : (l1.take (mn (l1.length : Int) 60).toNat).length ≤ 60 := by
        rw [List.length_take]
        unfold mn
        split <;> omega
      have := uses_go l (by omega) hok hr _ hu _ 2999 0 [] (Nat.zero_add _) (by omega) ⟨List.nodup_nil, by simp⟩
      have e : rest l [] = l := by simp [rest]
      rw [e] at this
      simpa using this
  · rw [if_neg hr]
    simp only [footwaylaw06_LruUses.j0]
    rw [if_pos trivial, alive_eq _ (by omega)]
    rfl
end Go.Proofs.Ytnkkedkkjmehpaa.Pure
