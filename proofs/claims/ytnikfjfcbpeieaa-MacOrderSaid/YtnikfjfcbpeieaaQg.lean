/- The reference of mac and frame as plain numbers; classes by bits. -/
import Derived.Test.YtnikfjfcbpeieaaQf
import Derived.Test.YtnikfjfcbpeieaaPBax2
import Derived.Laws.BitsLemmas
namespace Go.Proofs.Ytnikfjfcbpeieaa.QF
open Go.RowKit Go.Proofs.Ytnikfjfcbpeieaa.PBa Go.Proofs.Ytnikfjfcbpeieaa.EFrame Go.Proofs.Ytnikfjfcbpeieaa.EMac Go.Proofs.YtnikfjfcbpeieaaW.PrintWords Go.Proofs.YtnikfjfcbpeieaaW.PrintLast Go.Proofs.YtnikfjfcbpeieaaW.PrintMore
set_option linter.unusedVariables false
set_option linter.unusedSimpArgs false

theorem and_top (a : Nat) (h : a < 2 ^ 64) : a &&& 18446744073709551600 = a / 2 ^ 4 * 2 ^ 4 := by
  rw [show 18446744073709551600 = (2 ^ 60 - 1) * 2 ^ 4 from by decide]
  apply Nat.eq_of_testBit_eq
  intro j
  rw [Nat.testBit_and, Nat.testBit_mul_two_pow, Nat.testBit_mul_two_pow, Nat.testBit_two_pow_sub_one, Nat.testBit_div_two_pow]
  by_cases h4 : 4 ≤ j
  · rw [show j - 4 + 4 = j from by omega]
    by_cases h64 : j - 4 < 60
    · simp [h4, h64]
    · have : a.testBit j = false := Nat.testBit_lt_two_pow (Nat.lt_of_lt_of_le h (Nat.pow_le_pow_right (by decide) (by omega)))
      simp [this]
  · simp [h4]

theorem andNot15 (a : Int) (h0 : 0 ≤ a) (h1 : a ≤ 281474976710655) : Go.bits .andNot .i64 a 15 = a / 16 * 16 := by
  obtain ⟨n, rfl⟩ := Int.eq_ofNat_of_zero_le h0
  show IntKind.i64.wrap ((BitVec.ofInt 64 (n : Int) &&& ~~~BitVec.ofInt 64 15).toNat : Int) = _
  have h2 : (BitVec.ofInt 64 15).toNat = 15 := by decide
  have h3 : (BitVec.ofInt 64 (n : Int)).toNat = n := by
    rw [BitVec.ofInt_natCast, BitVec.toNat_ofNat]; exact Nat.mod_eq_of_lt (by omega)
  rw [BitVec.toNat_and, BitVec.toNat_not, h3, h2, show 2 ^ 64 - 1 - 15 = 18446744073709551600 from by decide, and_top n (by omega), IntKind.wrap_i64]
  omega

theorem and1 (x : Int) (h0 : 0 ≤ x) (h1 : x < 9223372036854775808) : Go.bits .and .i64 x 1 = x % 2 := by
  have := bits_mask .i64 63 (by decide) (fun n h₀ h₁ => by rw [IntKind.wrap_i64]; omega) 1 (by decide) x h0 (by omega)
  exact this

/-- The class of an address. -/
def cls (a : Int) : Int := if a / 16 = 103282638848 then 2 else a / 1099511627776 % 2

theorem Class_yes {a : Int} (h0 : 0 ≤ a) (h1 : a ≤ 281474976710655) : mac_Class.f a = some (cls a, 0) := by
  unfold mac_Class.f mac_Right.f cls
  rw [if_pos h0]
  simp only [Option.bind_some, h1, decide_true, if_true]
  rw [andNot15 a h0 h1, and1 _ (by omega) (by omega)]
  by_cases h : a / 16 = 103282638848
  · rw [if_pos h, if_pos (by omega)]
  · rw [if_neg h, if_neg (by omega)]

theorem Class_no {a : Int} (h : ¬ (0 ≤ a ∧ a ≤ 281474976710655)) : mac_Class.f a = some (0, 1) := by
  unfold mac_Class.f mac_Right.f
  by_cases h0 : a ≥ 0
  · rw [if_pos h0]
    have : ¬ a ≤ 281474976710655 := fun h1 => h ⟨h0, h1⟩
    simp [this]
  · rw [if_neg h0]
    rfl

theorem rClass_eq {a : Int} (h0 : 0 ≤ a) (h1 : a ≤ 281474976710655) : footwayref01_Class.f a = some (cls a) := by
  unfold footwayref01_Class.f cls
  rw [Int.tdiv_eq_ediv_of_nonneg h0, Int.tdiv_eq_ediv_of_nonneg h0]
  rw [show wrap64 (a / 16) = a / 16 from by unfold wrap64; omega, show wrap64 (a / 1099511627776) = a / 1099511627776 from by unfold wrap64; omega, Int.tmod_eq_emod_of_nonneg (by omega)]
  by_cases h : a / 16 = 103282638848
  · rw [if_pos h, if_pos h]
  · rw [if_neg h, if_neg h]
    by_cases h2 : a / 1099511627776 % 2 = 1
    · rw [if_pos h2, h2]
    · rw [if_neg h2]
      congr 1
      omega

theorem macRight_eq (a : Int) : mac_Right.f a = some (decide (0 ≤ a ∧ a ≤ 281474976710655)) := by
  unfold mac_Right.f
  by_cases h0 : a ≥ 0
  · rw [if_pos h0]
    have h0' : 0 ≤ a := h0
    simp [h0']
  · rw [if_neg h0]
    have h0' : ¬ 0 ≤ a := h0
    simp [h0']

theorem rRight_eq (a : Int) : footwayref01_Right.f a = some (decide (0 ≤ a ∧ a ≤ 281474976710655)) := by
  unfold footwayref01_Right.f
  by_cases h0 : a ≥ 0
  · rw [if_pos h0]
    have h0' : 0 ≤ a := h0
    simp only [h0', true_and, Option.some.injEq, decide_eq_decide]
    omega
  · rw [if_neg h0]
    have h0' : ¬ 0 ≤ a := h0
    simp [h0']

theorem fRight_ref (d c t : Int) (n : ByteArray) : footwayref02_Right.f d c t n = frame_Right.f d c t n := by
  unfold footwayref02_Right.f frame_Right.f
  rw [rRight_eq d, rRight_eq c, macRight_eq d]
  simp only [Option.bind_some]
  by_cases hc : 0 ≤ c ∧ c ≤ 281474976710655
  · rw [Class_yes hc.1 hc.2, rClass_eq hc.1 hc.2, decide_eq_true hc]
    simp only [Option.bind_some, if_true]
    by_cases hd : 0 ≤ d ∧ d ≤ 281474976710655
    · rw [decide_eq_true hd]
      simp only [if_true]
      by_cases hk : cls c = 0
      · rw [if_pos hk, if_pos hk]
        by_cases ht : t ≥ 0
        · rw [if_pos ht, if_pos ht]
          by_cases ht2 : t ≤ 65535
          · rw [if_pos (by omega), if_pos ht2]
          · rw [if_neg (by omega), if_neg ht2]
        · rw [if_neg ht, if_neg ht]
      · rw [if_neg hk, if_neg hk]
    · rw [decide_eq_false hd]
      simp
  · rw [Class_no hc, decide_eq_false hc]
    simp

theorem rOf_step (k : Nat) (s : ByteArray) (a i j : Int) (hj : j = i + 1) (h0 : 0 ≤ a) (h1 : a < 36028797018963968) (h2 : 0 ≤ i) (h3 : i < 6) (h4 : s.size = 6) : footwayref01_Of.l0 (k + 1) s a i = footwayref01_Of.l0 k s (a * 256 + bt s i) j := by
  subst hj
  have hb := bt_range s i
  rw [footwayref01_Of.l0, if_pos (by omega), if_pos h2]
  rw [show wrap64 (wrap64 (256 * a) + wrap64 (bt s i)) = a * 256 + bt s i from by unfold wrap64; omega, show wrap64 (i + 1) = i + 1 from by unfold wrap64; omega]

theorem rOf_num (k : Nat) (s : ByteArray) (h : s.size = 6) : footwayref01_Of.f (k + 7) s = some (num6 s 0) := by
  have b0 := bt_range s 0
  have b1 := bt_range s 1
  have b2 := bt_range s 2
  have b3 := bt_range s 3
  have b4 := bt_range s 4
  have b5 := bt_range s 5
  unfold footwayref01_Of.f
  rw [rOf_step (k + 6) s _ _ 1 rfl (by omega) (by omega) (by omega) (by omega) h]
  rw [rOf_step (k + 5) s _ _ 2 rfl (by omega) (by omega) (by omega) (by omega) h]
  rw [rOf_step (k + 4) s _ _ 3 rfl (by omega) (by omega) (by omega) (by omega) h]
  rw [rOf_step (k + 3) s _ _ 4 rfl (by omega) (by omega) (by omega) (by omega) h]
  rw [rOf_step (k + 2) s _ _ 5 rfl (by omega) (by omega) (by omega) (by omega) h]
  rw [rOf_step (k + 1) s _ _ 6 rfl (by omega) (by omega) (by omega) (by omega) h]
  rw [footwayref01_Of.l0, if_neg (by omega)]
  unfold num6
  congr 1
  simp only [Int.zero_add]
  omega

theorem num6_sub (s : ByteArray) (lo : Nat) (h : lo + 6 ≤ s.size) : num6 (s.extract lo (lo + 6)) 0 = num6 s lo := by
  have h1 := Of_sub s lo h
  have hz : (s.extract lo (lo + 6)).size = 6 := by rw [ByteArray.size_extract]; omega
  rw [Of_num 0 _ hz] at h1
  simpa using h1

theorem rOf_sub (k : Nat) (s : ByteArray) (lo : Nat) (h : lo + 6 ≤ s.size) : footwayref01_Of.f (k + 7) (s.extract lo (lo + 6)) = some (num6 s lo) := by
  rw [rOf_num k _ (by rw [ByteArray.size_extract]; omega), num6_sub s lo h]

theorem rParse_eq (k : Nat) (s : ByteArray) : footwayref02_Parse.f (k + 7) s = frame_Parse.f s := by
  unfold footwayref02_Parse.f frame_Parse.f
  by_cases h0 : s.size < 14
  · rw [if_pos (by omega), if_pos h0]
  · rw [if_neg (by omega), if_neg h0]
    by_cases h1 : 114 < s.size
    · rw [if_pos (by omega), if_pos h1]
    · rw [if_neg (by omega), if_neg h1, if_pos (by decide), if_pos (by omega)]
      have e1 := rOf_sub k s 0 (by omega)
      have e2 := rOf_sub k s 6 (by omega)
      simp only [Nat.zero_add] at e1
      have b0 := bt_range s 12
      have b1 := bt_range s 13
      have e3 : wrap64 (wrap64 (256 * wrap64 (bt s 12)) + wrap64 (bt s 13)) = tnum s := by unfold wrap64 tnum; omega
      have e2' : footwayref01_Of.f (k + 7) (s.extract 6 12) = some (num6 s 6) := e2
      have e1' : footwayref01_Of.f (k + 7) (s.extract 0 6) = some (num6 s 0) := e1
      rw [e1', e2']
      simp only [Option.bind_some]
      rw [if_pos (by decide), if_pos (by omega), if_pos (by omega), if_pos (by omega), if_pos (by omega), e3, fRight_ref]

theorem rB_step (k : Nat) (a : Int) (x : ByteArray) (i j : Int) (hj : j = i + 1) (h0 : 0 ≤ a) (h1 : a ≤ 281474976710655) (h2 : 0 ≤ i) (h3 : i < 6) (hx : x.size ≤ 100) : footwayref01_Bytes.l0 (k + 1) a x i = footwayref01_Bytes.l0 k (a / 256) (strOfNums [a % 256] ++ x) j := by
  subst hj
  rw [footwayref01_Bytes.l0, if_pos h3]
  simp only [Option.bind_some]
  rw [Int.tmod_eq_emod_of_nonneg h0, Int.tdiv_eq_ediv_of_nonneg h0]
  rw [show a % 256 % 256 = a % 256 from by omega, show wrap64 (a / 256) = a / 256 from by unfold wrap64; omega, show wrap64 (i + 1) = i + 1 from by unfold wrap64; omega]
  rw [if_pos (by rw [str_size]; simp; omega)]

theorem str_cons (a b : List Int) (ha : ∀ x ∈ a, 0 ≤ x ∧ x ≤ 255) (hb : ∀ x ∈ b, 0 ≤ x ∧ x ≤ 255) : strOfNums a ++ strOfNums b = strOfNums (a ++ b) := by
  apply bytes_inj
  rw [bytes_append, bytes_of_str a ha, bytes_of_str b hb, bytes_of_str]
  intro x hx
  rcases List.mem_append.1 hx with h | h
  · exact ha x h
  · exact hb x h

theorem rBytes_eq (k : Nat) {a : Int} (h0 : 0 ≤ a) (h1 : a ≤ 281474976710655) : footwayref01_Bytes.f (k + 7) a = some (strOfNums (b6 a)) := by
  have ok : ∀ y : Int, ∀ x ∈ [y % 256], 0 ≤ x ∧ x ≤ 255 := by
    intro y x hx
    simp at hx
    omega
  have ok2 : ∀ (y : Int) (l : List Int), (∀ x ∈ l, 0 ≤ x ∧ x ≤ 255) → ∀ x ∈ ([y % 256] ++ l), 0 ≤ x ∧ x ≤ 255 := by
    intro y l hl x hx
    rcases List.mem_append.1 hx with h | h
    · exact ok y x h
    · exact hl x h
  unfold footwayref01_Bytes.f
  have z : (⟨#[]⟩ : ByteArray) = strOfNums [] := rfl
  have n0 : ∀ x ∈ ([] : List Int), 0 ≤ x ∧ x ≤ 255 := by simp
  rw [z, rB_step (k + 6) a _ 0 1 rfl (by omega) (by omega) (by omega) (by omega) (by decide), str_cons _ _ (ok _) n0]
  have n1 := ok2 a _ n0
  rw [rB_step (k + 5) _ _ 1 2 rfl (by omega) (by omega) (by omega) (by omega) (by rw [str_size]; simp), str_cons _ _ (ok _) n1]
  have n2 := ok2 (a / 256) _ n1
  rw [rB_step (k + 4) _ _ 2 3 rfl (by omega) (by omega) (by omega) (by omega) (by rw [str_size]; simp), str_cons _ _ (ok _) n2]
  have n3 := ok2 (a / 256 / 256) _ n2
  rw [rB_step (k + 3) _ _ 3 4 rfl (by omega) (by omega) (by omega) (by omega) (by rw [str_size]; simp), str_cons _ _ (ok _) n3]
  have n4 := ok2 (a / 256 / 256 / 256) _ n3
  rw [rB_step (k + 2) _ _ 4 5 rfl (by omega) (by omega) (by omega) (by omega) (by rw [str_size]; simp), str_cons _ _ (ok _) n4]
  have n5 := ok2 (a / 256 / 256 / 256 / 256) _ n4
  rw [rB_step (k + 1) _ _ 5 6 rfl (by omega) (by omega) (by omega) (by omega) (by rw [str_size]; simp), str_cons _ _ (ok _) n5]
  rw [footwayref01_Bytes.l0, if_neg (by decide)]
  congr 2
  unfold b6
  simp only [List.cons_append, List.nil_append, List.cons.injEq, and_true]
  refine ⟨by omega, by omega, by omega, by omega⟩
end Go.Proofs.Ytnikfjfcbpeieaa.QF
