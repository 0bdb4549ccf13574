/- Bpdu's Wrap and Unwrap as plain numbers: what they answer, and that one undoes the other. -/
import Derived.Test.YtnikfjfcbpeieaaMBTc
import Derived.Test.YtnikfjfcbpeieaaMBP4
import Derived.Test.YtnikfjfcbpeieaaMBTf
import Derived.Laws.BitsLemmas
section
namespace Go.Proofs.Ytnikfjfcbpeieaa.QW
open Go.RowKit Go.Proofs.Ytnikfjfcbpeieaa.PBq Go.Proofs.Ytnikfjfcbpeieaa.PBp Go.Proofs.Ytnikfjfcbpeieaa.EBp Go.Proofs.Ytnikfjfcbpeieaa.EFrame Go.Proofs.Ytnikfjfcbpeieaa.QF Go.Proofs.YtnikfjfcbpeieaaW.PrintWords Go.Proofs.YtnikfjfcbpeieaaW.PrintLast Go.Proofs.YtnikfjfcbpeieaaW.PrintMore Go.Proofs.Ytnikfjfcbpeieaa.PBa Go.Proofs.Ytnikfjfcbpeieaa.QB Go.Proofs.Ytnikfjfcbpeieaa.PFr Go.Proofs.Ytnikfjfcbpeieaa.EMac
set_option linter.unusedVariables false
set_option linter.unusedSimpArgs false

theorem and_top (a : Nat) (h : a < 2 ^ 64) : a &&& 18446744073709551600 = a / 2 ^ 4 * 2 ^ 4 := by
  rw [show 18446744073709551600 = (2 ^ 60 - 1) * 2 ^ 4 from by decide]
  apply Nat.eq_of_testBit_eq
  intro j
  rw [Nat.testBit_and, Nat.testBit_mul_two_pow, Nat.testBit_mul_two_pow, Nat.testBit_two_pow_sub_one, Nat.testBit_div_two_pow]
  by_cases h4 : 4 ≤ j
  · rw [show j - 4 + 4 = j from by omega]
    by_cases h64 : j - 4 < 60
    · simp [h4, h64]
    · have : a.testBit j = false := Nat.testBit_lt_two_pow (Nat.lt_of_lt_of_le h (Nat.pow_le_pow_right (by decide) (by omega)))
      simp [this]
  · simp [h4]

theorem andNot15 (a : Int) (h0 : 0 ≤ a) (h1 : a ≤ 281474976710655) : Go.bits .andNot .i64 a 15 = a / 16 * 16 := by
  obtain ⟨n, rfl⟩ := Int.eq_ofNat_of_zero_le h0
  show IntKind.i64.wrap ((BitVec.ofInt 64 (n : Int) &&& ~~~BitVec.ofInt 64 15).toNat : Int) = _
  have h2 : (BitVec.ofInt 64 15).toNat = 15 := by decide
  have h3 : (BitVec.ofInt 64 (n : Int)).toNat = n := by
    rw [BitVec.ofInt_natCast, BitVec.toNat_ofNat]; exact Nat.mod_eq_of_lt (by omega)
  rw [BitVec.toNat_and, BitVec.toNat_not, h3, h2, show 2 ^ 64 - 1 - 15 = 18446744073709551600 from by decide, and_top n (by omega), IntKind.wrap_i64]
  omega

theorem and1 (x : Int) (h0 : 0 ≤ x) (h1 : x < 9223372036854775808) : Go.bits .and .i64 x 1 = x % 2 := by
  have := bits_mask .i64 63 (by decide) (fun n h₀ h₁ => by rw [IntKind.wrap_i64]; omega) 1 (by decide) x h0 (by omega)
  exact this

theorem Print_yes {d c t : Int} {n : ByteArray} (k : Nat) (h : frame_Right.f d c t n = some true) : frame_Print.f (k + 5) d c t n = some (strOfNums (P d c t n), 0) := by
  obtain ⟨hc, hd, ht, hn⟩ := (right_iff _ _ _ _).1 h
  have hc' := class_right hc
  unfold frame_Print.f
  rw [h]
  simp only [Option.bind_some, if_true]
  unfold mac_Bytes.f
  rw [if_pos hd, if_pos hc']
  simp only [Option.bind_some]
  have s0 : (strOfNums (b6 d)).size = 6 := by rw [str_size]; rfl
  have s1 : (strOfNums (b6 c)).size = 6 := by rw [str_size]; rfl
  have s2 : (strOfNums [t / 256 % 256, t % 256]).size = 2 := by rw [str_size]; rfl
  rw [joined_eq k _ _ _ _ (by omega) (by omega) (by omega) (by omega)]
  rw [bytes_of_str _ (b6_ok hd.1 hd.2), bytes_of_str _ (b6_ok hc'.1 hc'.2), bytes_of_str [t / 256 % 256, t % 256] (by intro x hx; simp at hx; omega)]
  rfl

theorem Print_no {d c t : Int} {n : ByteArray} (k : Nat) (h : frame_Right.f d c t n = some false) : frame_Print.f k d c t n = some (⟨#[]⟩, 1) := by
  unfold frame_Print.f
  rw [h]
  rfl


theorem class_b (b : Int) (h0 : 0 ≤ b) (h1 : b ≤ 65535) : mac_Class.f (2199023321088 + b) = some (0, 0) := by
  unfold mac_Class.f mac_Right.f
  rw [if_pos (by omega)]
  have e : decide (2199023321088 + b ≤ 281474976710655) = true := decide_eq_true (by omega)
  simp only [Option.bind_some, e, if_true]
  rw [andNot15 _ (by omega) (by omega), and1 _ (by omega) (by omega), if_neg (by omega), show (2199023321088 + b) / 1099511627776 % 2 = 0 from by omega]

/-- The config's string, and its frame's. -/
abbrev S12 (r c b p a : Int) : ByteArray := strOfNums (L12 r c b p a)
abbrev SP (r c b p a : Int) : ByteArray := strOfNums (P 1652522221568 (2199023321088 + b) 32834 (S12 r c b p a))
theorem S12_size (r c b p a : Int) : (S12 r c b p a).size = 12 := by rw [str_size, L12_len]
theorem wr_b (b : Int) (h0 : 0 ≤ b) (h1 : b ≤ 65535) : wrap64 (2199023321088 + b) = 2199023321088 + b := by unfold wrap64; omega
theorem SP_right {r c b p a : Int} (h : Rt r c b p a) : frame_Right.f 1652522221568 (2199023321088 + b) 32834 (S12 r c b p a) = some true :=
  (right_iff _ _ _ _).2 ⟨class_b b h.b.1 h.b.2, by decide, by decide, by rw [S12_size]; decide⟩
theorem Wrap_yes {r c b p a : Int} (k : Nat) (h : Rt r c b p a) : bpdu_Wrap.f (k + 5) r c b p a = some (SP r c b p a, 0) := by
  unfold bpdu_Wrap.f
  rw [Print_eq, if_pos h]
  simp only [Option.bind_some, if_true]
  rw [wr_b b h.b.1 h.b.2, Print_yes k (SP_right h)]
  rfl
theorem Wrap_no {r c b p a : Int} (k : Nat) (h : ¬ Rt r c b p a) : bpdu_Wrap.f k r c b p a = some (⟨#[]⟩, 1) := by
  unfold bpdu_Wrap.f
  rw [Print_eq, if_neg h]
  rfl
theorem Unwrap_Wrap {r c b p a : Int} (h : Rt r c b p a) : bpdu_Unwrap.f (SP r c b p a) = some (r, c, b, p, a, 0) := by
  unfold bpdu_Unwrap.f
  rw [Parse_P (SP_right h)]
  simp only [Option.bind_some, if_true]
  rw [Parse_Print h]
  simp only [Option.bind_some, if_true]
  rw [wr_b b h.b.1 h.b.2, if_pos rfl]

theorem four {x3 x4 x5 x6 : Int} (k3 : 0 ≤ x3 ∧ x3 ≤ 255) (k4 : 0 ≤ x4 ∧ x4 ≤ 255) (k5 : 0 ≤ x5 ∧ x5 ≤ 255) (k6 : 0 ≤ x6 ∧ x6 ≤ 255) :
    (x3 * 16777216 + x4 * 65536 + x5 * 256 + x6) / 16777216 % 256 = x3 ∧ (x3 * 16777216 + x4 * 65536 + x5 * 256 + x6) / 65536 % 256 = x4 ∧ (x3 * 16777216 + x4 * 65536 + x5 * 256 + x6) / 256 % 256 = x5 ∧ (x3 * 16777216 + x4 * 65536 + x5 * 256 + x6) % 256 = x6 := by
  refine ⟨?_, ?_, ?_, ?_⟩
  · rw [show (x3 * 16777216 + x4 * 65536 + x5 * 256 + x6) / 16777216 = x3 from by omega]; omega
  · rw [show (x3 * 16777216 + x4 * 65536 + x5 * 256 + x6) / 65536 = x3 * 256 + x4 from by omega]; omega
  · rw [show (x3 * 16777216 + x4 * 65536 + x5 * 256 + x6) / 256 = x3 * 65536 + x4 * 256 + x5 from by omega]; omega
  · omega
theorem two {x1 x2 : Int} (k1 : 0 ≤ x1 ∧ x1 ≤ 255) (k2 : 0 ≤ x2 ∧ x2 ≤ 255) : (x1 * 256 + x2) / 256 % 256 = x1 ∧ (x1 * 256 + x2) % 256 = x2 := by omega
theorem list12 {l : List Int} (h : l.length = 12) : ∃ x0 x1 x2 x3 x4 x5 x6 x7 x8 x9 x10 x11, l = [x0, x1, x2, x3, x4, x5, x6, x7, x8, x9, x10, x11] := by
  match l, h with
  | [x0, x1, x2, x3, x4, x5, x6, x7, x8, x9, x10, x11], _ => exact ⟨_, _, _, _, _, _, _, _, _, _, _, _, rfl⟩
/-- What Parse answers: an error and nothing, or a config that may be, and whose bytes these are. -/
theorem Parse_is (s : ByteArray) (hs : s.size ≤ 1000) : (∃ r c b p a, bpdu_Parse.f s = some (r, c, b, p, a, 0) ∧ Rt r c b p a ∧ S12 r c b p a = s) ∨ ∃ e, e ≠ 0 ∧ bpdu_Parse.f s = some (0, 0, 0, 0, 0, e) := by
  by_cases h0 : s.size < 12
  · exact .inr ⟨7, by decide, by unfold bpdu_Parse.f; rw [if_pos h0]⟩
  · by_cases h1 : 12 < s.size
    · exact .inr ⟨8, by decide, by unfold bpdu_Parse.f; rw [if_neg h0, if_pos h1, if_pos hs]⟩
    · obtain ⟨x0, x1, x2, x3, x4, x5, x6, x7, x8, x9, x10, x11, hl⟩ := list12 (l := bytesOf s) (by rw [bytes_len]; omega)
      rw [Parse_list s _ _ _ _ _ _ _ _ _ _ _ _ hl]
      have ok := bytes_ok s
      rw [hl] at ok
      simp only [List.mem_cons, List.not_mem_nil, or_false, forall_eq_or_imp, forall_eq] at ok
      obtain ⟨k0, k1, k2, k3, k4, k5, k6, k7, k8, k9, k10, k11⟩ := ok
      unfold PL
      split
      · rename_i hsum
        split
        · rename_i hr
          refine .inl ⟨_, _, _, _, _, rfl, hr.2, ?_⟩
          rw [← str_of_bytes s, hl]
          have h0 := hr.1
          obtain ⟨q1, q2⟩ := two k1 k2
          obtain ⟨q3, q4, q5, q6⟩ := four k3 k4 k5 k6
          obtain ⟨q7, q8⟩ := two k7 k8
          have q9 : x9 % 256 = x9 := by omega
          have q10 : x10 % 256 = x10 := by omega
          show strOfNums (L11 _ _ _ _ _ ++ [ck _ _ _ _ _]) = _
          unfold ck L11
          rw [q1, q2, q3, q4, q5, q6, q7, q8, q9, q10]
          have q11 : (-(([0, x1, x2, x3, x4, x5, x6, x7, x8, x9, x10] : List Int).sum % 256)) % 256 = x11 := by
            simp only [List.sum_cons, List.sum_nil]
            omega
          rw [q11, h0]
          rfl
        · exact .inr ⟨10, by decide, rfl⟩
      · exact .inr ⟨9, by decide, rfl⟩
theorem Unwrap_is (s : ByteArray) : (∃ r c b p a, bpdu_Unwrap.f s = some (r, c, b, p, a, 0) ∧ Rt r c b p a ∧ SP r c b p a = s) ∨ ∃ e, e ≠ 0 ∧ bpdu_Unwrap.f s = some (0, 0, 0, 0, 0, e) := by
  unfold bpdu_Unwrap.f
  rcases Parse_cases s with ⟨d, c, t, n, hp, hr, hs, hz⟩ | ⟨e, he, hp⟩
  · rw [hp]
    simp only [Option.bind_some, if_true]
    by_cases h1 : d = 1652522221568
    · rw [if_pos h1]
      by_cases h2 : t = 32834
      · rw [if_pos h2]
        rcases Parse_is n (by have := ((right_iff _ _ _ _).1 hr).2.2.2; omega) with ⟨r, c', b, p, a, hp', ht, hS⟩ | ⟨e, he, hp'⟩
        · rw [hp']
          simp only [Option.bind_some, if_true]
          rw [wr_b b ht.b.1 ht.b.2]
          by_cases h3 : c = 2199023321088 + b
          · rw [if_pos h3]
            refine .inl ⟨_, _, _, _, _, rfl, ht, ?_⟩
            show strOfNums (P _ _ _ (S12 _ _ _ _ _)) = s
            rw [hS, ← h3, ← h1, ← h2, hs]
          · rw [if_neg h3]
            exact .inr ⟨10, by decide, rfl⟩
        · rw [hp']
          simp only [Option.bind_some]
          rw [if_neg he]
          exact .inr ⟨e, he, rfl⟩
      · rw [if_neg h2]
        exact .inr ⟨10, by decide, rfl⟩
    · rw [if_neg h1]
      exact .inr ⟨10, by decide, rfl⟩
  · rw [hp]
    simp only [Option.bind_some]
    rw [if_neg he]
    exact .inr ⟨e, he, rfl⟩
end Go.Proofs.Ytnikfjfcbpeieaa.QW
end
