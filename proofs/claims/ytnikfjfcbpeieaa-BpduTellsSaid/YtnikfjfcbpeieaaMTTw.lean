/- Bpdu's Wrap and Unwrap as plain numbers: what they answer, and that one undoes the other. -/
/- Bpdu's reference as plain numbers: it answers as bpdu does. -/
import Derived.Test.YtnikfjfcbpeieaaMTTc
import Derived.Test.YtnikfjfcbpeieaaMTP4
import Derived.Test.YtnikfjfcbpeieaaMTTf
import Derived.Laws.BitsLemmas
import Derived.Test.YtnikfjfcbpeieaaMTTe
import Derived.Test.YtnikfjfcbpeieaaMTP5
import Derived.Test.YtnikfjfcbpeieaaMTP6
import Derived.Test.YtnikfjfcbpeieaaMTP7
section
namespace Go.Proofs.Ytnikfjfcbpeieaa.QW
open Go.RowKit Go.Proofs.Ytnikfjfcbpeieaa.PBq Go.Proofs.Ytnikfjfcbpeieaa.PBp Go.Proofs.Ytnikfjfcbpeieaa.EBp Go.Proofs.Ytnikfjfcbpeieaa.EFrame Go.Proofs.Ytnikfjfcbpeieaa.QF Go.Proofs.YtnikfjfcbpeieaaW.PrintWords Go.Proofs.YtnikfjfcbpeieaaW.PrintLast Go.Proofs.YtnikfjfcbpeieaaW.PrintMore Go.Proofs.Ytnikfjfcbpeieaa.PBa Go.Proofs.Ytnikfjfcbpeieaa.QB Go.Proofs.Ytnikfjfcbpeieaa.PFr Go.Proofs.Ytnikfjfcbpeieaa.EMac
set_option linter.unusedVariables false
set_option linter.unusedSimpArgs false
theorem and_top (a : Nat) (h : a < 2 ^ 64) : a &&& 18446744073709551600 = a / 2 ^ 4 * 2 ^ 4 := by
 rw [show 18446744073709551600 = (2 ^ 60 - 1) * 2 ^ 4 from by decide]
 apply Nat.eq_of_testBit_eq
 intro j
 rw [Nat.testBit_and, Nat.testBit_mul_two_pow, Nat.testBit_mul_two_pow, Nat.testBit_two_pow_sub_one, Nat.testBit_div_two_pow]
 by_cases h4 : 4 ≤ j
 ·rw [show j - 4 + 4 = j from by omega]
  by_cases h64 : j - 4 < 60
  ·simp [h4, h64]
  ·have : a.testBit j = false := Nat.testBit_lt_two_pow (Nat.lt_of_lt_of_le h (Nat.pow_le_pow_right (by decide) (by omega)))
   simp [this]
 ·simp [h4]
theorem andNot15 (a : Int) (h0 : 0 ≤ a) (h1 : a ≤ 281474976710655) : Go.bits .andNot .i64 a 15 = a / 16 * 16 := by
 obtain ⟨n, rfl⟩ := Int.eq_ofNat_of_zero_le h0
 show IntKind.i64.wrap ((BitVec.ofInt 64 (n : Int) &&& ~~~BitVec.ofInt 64 15).toNat : Int) = _
 have h2 : (BitVec.ofInt 64 15).toNat = 15 := by decide
 have h3 : (BitVec.ofInt 64 (n : Int)).toNat = n := by
  rw [BitVec.ofInt_natCast, BitVec.toNat_ofNat]; exact Nat.mod_eq_of_lt (by omega)
 rw [BitVec.toNat_and, BitVec.toNat_not, h3, h2, show 2 ^ 64 - 1 - 15 = 18446744073709551600 from by decide, and_top n (by omega), IntKind.wrap_i64]
 omega
theorem and1 (x : Int) (h0 : 0 ≤ x) (h1 : x < 9223372036854775808) : Go.bits .and .i64 x 1 = x % 2 := by
 have := bits_mask .i64 63 (by decide) (fun n h₀ h₁ => by rw [IntKind.wrap_i64]; omega) 1 (by decide) x h0 (by omega)
 exact this
theorem Print_yes {d c t : Int} {n : ByteArray} (k : Nat) (h : frame_Right.f d c t n = some true) : frame_Print.f (k + 5) d c t n = some (strOfNums (P d c t n), 0) := by
 obtain ⟨hc, hd, ht, hn⟩ := (right_iff _ _ _ _).1 h
 have hc' := class_right hc
 unfold frame_Print.f
 rw [h]
 simp only [Option.bind_some, if_true]
 unfold mac_Bytes.f
 rw [if_pos hd, if_pos hc']
 simp only [Option.bind_some]
 have s0 : (strOfNums (b6 d)).size = 6 := by rw [str_size]; rfl
 have s1 : (strOfNums (b6 c)).size = 6 := by rw [str_size]; rfl
 have s2 : (strOfNums [t / 256 % 256, t % 256]).size = 2 := by rw [str_size]; rfl
 rw [joined_eq k _ _ _ _ (by omega) (by omega) (by omega) (by omega)]
 rw [bytes_of_str _ (b6_ok hd.1 hd.2), bytes_of_str _ (b6_ok hc'.1 hc'.2), bytes_of_str [t / 256 % 256, t % 256] (by intro x hx; simp at hx; omega)]
 rfl
theorem class_b (b : Int) (h0 : 0 ≤ b) (h1 : b ≤ 65535) : mac_Class.f (2199023321088 + b) = some (0, 0) := by
 unfold mac_Class.f mac_Right.f
 rw [if_pos (by omega)]
 have e : decide (2199023321088 + b ≤ 281474976710655) = true := decide_eq_true (by omega)
 simp only [Option.bind_some, e, if_true]
 rw [andNot15 _ (by omega) (by omega), and1 _ (by omega) (by omega), if_neg (by omega), show (2199023321088 + b) / 1099511627776 % 2 = 0 from by omega]
abbrev S12 (r c b p a : Int) : ByteArray := strOfNums (L12 r c b p a)
abbrev SP (r c b p a : Int) : ByteArray := strOfNums (P 1652522221568 (2199023321088 + b) 32834 (S12 r c b p a))
theorem S12_size (r c b p a : Int) : (S12 r c b p a).size = 12 := by rw [str_size, L12_len]
theorem wr_b (b : Int) (h0 : 0 ≤ b) (h1 : b ≤ 65535) : wrap64 (2199023321088 + b) = 2199023321088 + b := by unfold wrap64; omega
theorem SP_right {r c b p a : Int} (h : Rt r c b p a) : frame_Right.f 1652522221568 (2199023321088 + b) 32834 (S12 r c b p a) = some true :=
 (right_iff _ _ _ _).2 ⟨class_b b h.b.1 h.b.2, by decide, by decide, by rw [S12_size]; decide⟩
theorem Wrap_yes {r c b p a : Int} (k : Nat) (h : Rt r c b p a) : bpdu_Wrap.f (k + 5) r c b p a = some (SP r c b p a, 0) := by
 unfold bpdu_Wrap.f
 rw [Print_eq, if_pos h]
 simp only [Option.bind_some, if_true]
 rw [wr_b b h.b.1 h.b.2, Print_yes k (SP_right h)]
 rfl
theorem Wrap_no {r c b p a : Int} (k : Nat) (h : ¬ Rt r c b p a) : bpdu_Wrap.f k r c b p a = some (⟨#[]⟩, 1) := by
 unfold bpdu_Wrap.f
 rw [Print_eq, if_neg h]
 rfl
theorem four {x3 x4 x5 x6 : Int} (k3 : 0 ≤ x3 ∧ x3 ≤ 255) (k4 : 0 ≤ x4 ∧ x4 ≤ 255) (k5 : 0 ≤ x5 ∧ x5 ≤ 255) (k6 : 0 ≤ x6 ∧ x6 ≤ 255) :
  (x3 * 16777216 + x4 * 65536 + x5 * 256 + x6) / 16777216 % 256 = x3 ∧ (x3 * 16777216 + x4 * 65536 + x5 * 256 + x6) / 65536 % 256 = x4 ∧ (x3 * 16777216 + x4 * 65536 + x5 * 256 + x6) / 256 % 256 = x5 ∧ (x3 * 16777216 + x4 * 65536 + x5 * 256 + x6) % 256 = x6 := by
 refine ⟨?_, ?_, ?_, ?_⟩
 ·rw [show (x3 * 16777216 + x4 * 65536 + x5 * 256 + x6) / 16777216 = x3 from by omega]; omega
 ·rw [show (x3 * 16777216 + x4 * 65536 + x5 * 256 + x6) / 65536 = x3 * 256 + x4 from by omega]; omega
 ·rw [show (x3 * 16777216 + x4 * 65536 + x5 * 256 + x6) / 256 = x3 * 65536 + x4 * 256 + x5 from by omega]; omega
 ·omega
theorem two {x1 x2 : Int} (k1 : 0 ≤ x1 ∧ x1 ≤ 255) (k2 : 0 ≤ x2 ∧ x2 ≤ 255) : (x1 * 256 + x2) / 256 % 256 = x1 ∧ (x1 * 256 + x2) % 256 = x2 := by omega
theorem list12 {l : List Int} (h : l.length = 12) : ∃ x0 x1 x2 x3 x4 x5 x6 x7 x8 x9 x10 x11, l = [x0, x1, x2, x3, x4, x5, x6, x7, x8, x9, x10, x11] := by
 match l, h with
 | [x0, x1, x2, x3, x4, x5, x6, x7, x8, x9, x10, x11], _ => exact ⟨_, _, _, _, _, _, _, _, _, _, _, _, rfl⟩
theorem Parse_is (s : ByteArray) (hs : s.size ≤ 1000) : (∃ r c b p a, bpdu_Parse.f s = some (r, c, b, p, a, 0) ∧ Rt r c b p a ∧ S12 r c b p a = s) ∨ ∃ e, e ≠ 0 ∧ bpdu_Parse.f s = some (0, 0, 0, 0, 0, e) := by
 by_cases h0 : s.size < 12
 ·exact .inr ⟨7, by decide, by unfold bpdu_Parse.f; rw [if_pos h0]⟩
 ·by_cases h1 : 12 < s.size
  ·exact .inr ⟨8, by decide, by unfold bpdu_Parse.f; rw [if_neg h0, if_pos h1, if_pos hs]⟩
  ·obtain ⟨x0, x1, x2, x3, x4, x5, x6, x7, x8, x9, x10, x11, hl⟩ := list12 (l := bytesOf s) (by rw [bytes_len]; omega)
   rw [Parse_list s _ _ _ _ _ _ _ _ _ _ _ _ hl]
   have ok := bytes_ok s
   rw [hl] at ok
   simp only [List.mem_cons, List.not_mem_nil, or_false, forall_eq_or_imp, forall_eq] at ok
   obtain ⟨k0, k1, k2, k3, k4, k5, k6, k7, k8, k9, k10, k11⟩ := ok
   unfold PL
   split
   ·rename_i hsum
    split
    ·rename_i hr
     refine .inl ⟨_, _, _, _, _, rfl, hr.2, ?_⟩
     rw [← str_of_bytes s, hl]
     have h0 := hr.1
     obtain ⟨q1, q2⟩ := two k1 k2
     obtain ⟨q3, q4, q5, q6⟩ := four k3 k4 k5 k6
     obtain ⟨q7, q8⟩ := two k7 k8
     have q9 : x9 % 256 = x9 := by omega
     have q10 : x10 % 256 = x10 := by omega
     show strOfNums (L11 _ _ _ _ _ ++ [ck _ _ _ _ _]) = _
     unfold ck L11
     rw [q1, q2, q3, q4, q5, q6, q7, q8, q9, q10]
     have q11 : (-(([0, x1, x2, x3, x4, x5, x6, x7, x8, x9, x10] : List Int).sum % 256)) % 256 = x11 := by
      simp only [List.sum_cons, List.sum_nil]
      omega
     rw [q11, h0]
     rfl
    ·exact .inr ⟨10, by decide, rfl⟩
   ·exact .inr ⟨9, by decide, rfl⟩
theorem Unwrap_is (s : ByteArray) : (∃ r c b p a, bpdu_Unwrap.f s = some (r, c, b, p, a, 0) ∧ Rt r c b p a ∧ SP r c b p a = s) ∨ ∃ e, e ≠ 0 ∧ bpdu_Unwrap.f s = some (0, 0, 0, 0, 0, e) := by
 unfold bpdu_Unwrap.f
 rcases Parse_cases s with ⟨d, c, t, n, hp, hr, hs, hz⟩ | ⟨e, he, hp⟩
 ·rw [hp]
  simp only [Option.bind_some, if_true]
  by_cases h1 : d = 1652522221568
  ·rw [if_pos h1]
   by_cases h2 : t = 32834
   ·rw [if_pos h2]
    rcases Parse_is n (by have := ((right_iff _ _ _ _).1 hr).2.2.2; omega) with ⟨r, c', b, p, a, hp', ht, hS⟩ | ⟨e, he, hp'⟩
    ·rw [hp']
     simp only [Option.bind_some, if_true]
     rw [wr_b b ht.b.1 ht.b.2]
     by_cases h3 : c = 2199023321088 + b
     ·rw [if_pos h3]
      refine .inl ⟨_, _, _, _, _, rfl, ht, ?_⟩
      show strOfNums (P _ _ _ (S12 _ _ _ _ _)) = s
      rw [hS, ← h3, ← h1, ← h2, hs]
     ·rw [if_neg h3]
      exact .inr ⟨10, by decide, rfl⟩
    ·rw [hp']
     simp only [Option.bind_some]
     rw [if_neg he]
     exact .inr ⟨e, he, rfl⟩
   ·rw [if_neg h2]
    exact .inr ⟨10, by decide, rfl⟩
  ·rw [if_neg h1]
   exact .inr ⟨10, by decide, rfl⟩
 ·rw [hp]
  simp only [Option.bind_some]
  rw [if_neg he]
  exact .inr ⟨e, he, rfl⟩
end Go.Proofs.Ytnikfjfcbpeieaa.QW
end
section
namespace Go.Proofs.Ytnikfjfcbpeieaa.QR
open Go.RowKit Go.Proofs.Ytnikfjfcbpeieaa.PBq Go.Proofs.Ytnikfjfcbpeieaa.PBp Go.Proofs.Ytnikfjfcbpeieaa.EBp Go.Proofs.Ytnikfjfcbpeieaa.EFrame Go.Proofs.Ytnikfjfcbpeieaa.QF Go.Proofs.YtnikfjfcbpeieaaW.PrintWords Go.Proofs.YtnikfjfcbpeieaaW.PrintLast Go.Proofs.YtnikfjfcbpeieaaW.PrintMore Go.Proofs.Ytnikfjfcbpeieaa.PBa Go.Proofs.Ytnikfjfcbpeieaa.QB Go.Proofs.Ytnikfjfcbpeieaa.PFr Go.Proofs.Ytnikfjfcbpeieaa.EMac Go.Proofs.Ytnikfjfcbpeieaa.QW Go.Proofs.Ytnikfjfcbpeieaa.PBb
set_option linter.unusedVariables false
set_option linter.unusedSimpArgs false
theorem rPrint_yes {d c t : Int} {n : ByteArray} (k : Nat) (h : frame_Right.f d c t n = some true) : footwayref02_Print.f (k + 7) d c t n = some (strOfNums (P d c t n)) := by
 obtain ⟨hk, hd, ht, hn⟩ := (right_iff _ _ _ _).1 h
 have hc := class_right hk
 have o1 := b6_ok hd.1 hd.2
 have o2 := b6_ok hc.1 hc.2
 have z1 : (strOfNums (b6 d)).size = 6 := by rw [str_size]; rfl
 have z2 : (strOfNums (b6 c)).size = 6 := by rw [str_size]; rfl
 unfold footwayref02_Print.f
 rw [rBytes_eq k hd.1 hd.2, rBytes_eq k hc.1 hc.2]
 simp only [Option.bind_some]
 have et : [wrap64 (Int.tdiv t 256) % 256, Int.tmod t 256 % 256] = [t / 256 % 256, t % 256] := by
  rw [Int.tdiv_eq_ediv_of_nonneg ht.1, Int.tmod_eq_emod_of_nonneg ht.1]
  rw [show wrap64 (t / 256) = t / 256 from by unfold wrap64; omega, show t % 256 % 256 = t % 256 from by omega]
 rw [et]
 have o3 : ∀ x ∈ [t / 256 % 256, t % 256], 0 ≤ x ∧ x ≤ 255 := by intro x hx; simp at hx; omega
 have z3 : (strOfNums [t / 256 % 256, t % 256]).size = 2 := by rw [str_size]; rfl
 rw [if_pos (by omega), if_pos (by rw [ByteArray.size_append]; omega), if_pos (by rw [ByteArray.size_append, ByteArray.size_append]; omega)]
 congr 1
 apply bytes_inj
 rw [bytes_append, bytes_append, bytes_append, bytes_of_str _ o1, bytes_of_str _ o2, bytes_of_str _ o3, bytes_of_str _ (P_ok hd hc)]
 unfold P
 simp only [List.append_assoc]
theorem ref_right (r c b p a : Int) : footwayref03_Right.f r c b p a = some (decide (Rt r c b p a)) := by
 unfold footwayref03_Right.f
 repeat' split
 all_goals first
  | exact congrArg some (decide_eq_decide.2 ⟨fun h => ⟨by omega, by omega, by omega, by omega, by omega⟩, fun h => by have := h.a; omega⟩)
  | exact congrArg some (decide_eq_false (fun h => by have h1 := h.r; have h2 := h.c; have h3 := h.b; have h4 := h.p; have h5 := h.a; omega)).symm
theorem sum_loop (s : ByteArray) (hz : s.size ≤ 100) : ∀ (m k : Nat) (acc : Int) (i : Nat), i + m = s.size → m < k → 0 ≤ acc → acc < 256 → footwayref03_sum.l0 k s acc (i : Int) = some ((acc + ((bytesOf s).drop i).sum) % 256) := by
 intro m
 induction m with
 | zero =>
  intro k acc i hi hk h0 h1
  obtain ⟨k, rfl⟩ : ∃ j, k = j + 1 := ⟨k - 1, by omega⟩
  rw [footwayref03_sum.l0, if_neg (by omega), List.drop_of_length_le (by rw [bytes_len]; omega)]
  simp only [List.sum_nil]
  congr 1
  omega
 | succ m ih =>
  intro k acc i hi hk h0 h1
  obtain ⟨k, rfl⟩ : ∃ j, k = j + 1 := ⟨k - 1, by omega⟩
  have hb := bt_range s i
  have hl : i < (bytesOf s).length := by rw [bytes_len]; omega
  rw [footwayref03_sum.l0, if_pos (by omega), if_pos (by omega)]
  rw [show wrap64 (acc + wrap64 (bt s i)) = acc + bt s i from by unfold wrap64; omega, show wrap64 ((i : Int) + 1) = ((i + 1 : Nat) : Int) from by unfold wrap64; omega, Int.tmod_eq_emod_of_nonneg (by omega)]
  rw [ih k _ (i + 1) (by omega) (by omega) (by omega) (by omega), List.drop_eq_getElem_cons hl, List.sum_cons]
  have e : bt s i = (bytesOf s)[i] := by rw [bt_list, List.getD_eq_getElem?_getD, List.getElem?_eq_getElem hl]; rfl
  rw [e]
  congr 1
  omega
theorem ref_sum (k : Nat) (s : ByteArray) (hz : s.size ≤ 100) (hk : s.size < k) : footwayref03_sum.f k s = some ((bytesOf s).sum % 256) := by
 unfold footwayref03_sum.f
 have := sum_loop s hz s.size k 0 0 (by omega) hk (by omega) (by omega)
 simpa using this
theorem read_step (k : Nat) (s : ByteArray) (a i j : Int) (hj : j = i + 1) (h0 : 0 ≤ a) (h1 : a < 36028797018963968) (h2 : 0 ≤ i) (h3 : i < s.size) (h4 : s.size ≤ 100) : footwayref03_read.l0 (k + 1) s a i = footwayref03_read.l0 k s (a * 256 + bt s i) j := by
 subst hj
 have hb := bt_range s i
 rw [footwayref03_read.l0, if_pos (by omega), if_pos h2]
 rw [show wrap64 (wrap64 (256 * a) + wrap64 (bt s i)) = a * 256 + bt s i from by unfold wrap64; omega, show wrap64 (i + 1) = i + 1 from by unfold wrap64; omega]
theorem read_end (k : Nat) (s : ByteArray) (a i : Int) (h : ¬ i < s.size) : footwayref03_read.l0 (k + 1) s a i = some a := by
 rw [footwayref03_read.l0, if_neg h]
theorem bt_at {s : ByteArray} {l : List Int} (h : bytesOf s = l) (i : Nat) : bt s (i : Int) = l.getD i 0 := by rw [bt_list, h]
theorem read1 (k : Nat) {s : ByteArray} {x : Int} (h : bytesOf s = [x]) : footwayref03_read.f (k + 5) s = some x := by
 have z : s.size = 1 := by rw [← bytes_len, h]; rfl
 have b0 : bt s 0 = x := bt_at h 0
 unfold footwayref03_read.f
 rw [read_step (k + 4) s _ _ 1 rfl (by omega) (by omega) (by omega) (by omega) (by omega), read_end (k + 3) _ _ _ (by omega), b0]
 congr 1
 omega
theorem read2 (k : Nat) {s : ByteArray} {x y : Int} (h : bytesOf s = [x, y]) (hx : 0 ≤ x ∧ x ≤ 255) : footwayref03_read.f (k + 5) s = some (x * 256 + y) := by
 have z : s.size = 2 := by rw [← bytes_len, h]; rfl
 have b0 : bt s 0 = x := bt_at h 0
 have b1 : bt s 1 = y := bt_at h 1
 unfold footwayref03_read.f
 rw [read_step (k + 4) s _ _ 1 rfl (by omega) (by omega) (by omega) (by omega) (by omega), b0, read_step (k + 3) s _ _ 2 rfl (by omega) (by omega) (by omega) (by omega) (by omega), b1, read_end (k + 2) _ _ _ (by omega)]
 congr 1
 omega
theorem read4 (k : Nat) {s : ByteArray} {x y u v : Int} (h : bytesOf s = [x, y, u, v]) (hx : 0 ≤ x ∧ x ≤ 255) (hy : 0 ≤ y ∧ y ≤ 255) (hu : 0 ≤ u ∧ u ≤ 255) : footwayref03_read.f (k + 5) s = some (x * 16777216 + y * 65536 + u * 256 + v) := by
 have z : s.size = 4 := by rw [← bytes_len, h]; rfl
 have b0 : bt s 0 = x := bt_at h 0
 have b1 : bt s 1 = y := bt_at h 1
 have b2 : bt s 2 = u := bt_at h 2
 have b3 : bt s 3 = v := bt_at h 3
 unfold footwayref03_read.f
 rw [read_step (k + 4) s _ _ 1 rfl (by omega) (by omega) (by omega) (by omega) (by omega), b0, read_step (k + 3) s _ _ 2 rfl (by omega) (by omega) (by omega) (by omega) (by omega), b1,
  read_step (k + 2) s _ _ 3 rfl (by omega) (by omega) (by omega) (by omega) (by omega), b2, read_step (k + 1) s _ _ 4 rfl (by omega) (by omega) (by omega) (by omega) (by omega), b3, read_end k _ _ _ (by omega)]
 congr 1
 omega
theorem ref_Parse (k : Nat) (s : ByteArray) (hz : s.size ≤ 1000) : footwayref03_Parse.f (k + 20) s = bpdu_Parse.f s := by
 by_cases h0 : s.size < 12
 ·unfold footwayref03_Parse.f bpdu_Parse.f
  rw [if_pos (by omega), if_pos h0]
 ·by_cases h1 : 12 < s.size
  ·unfold footwayref03_Parse.f bpdu_Parse.f
   rw [if_neg (by omega), if_pos (by omega), if_neg h0, if_pos h1, if_pos hz]
  ·have z : s.size = 12 := by omega
   obtain ⟨x0, x1, x2, x3, x4, x5, x6, x7, x8, x9, x10, x11, hl⟩ := list12 (l := bytesOf s) (by rw [bytes_len]; omega)
   rw [Parse_list s _ _ _ _ _ _ _ _ _ _ _ _ hl]
   have ok := bytes_ok s
   rw [hl] at ok
   simp only [List.mem_cons, List.not_mem_nil, or_false, forall_eq_or_imp, forall_eq] at ok
   obtain ⟨k0, k1, k2, k3, k4, k5, k6, k7, k8, k9, k10, k11⟩ := ok
   have e1 : bytesOf (s.extract 1 3) = [x1, x2] := by rw [bytes_extract, hl]; rfl
   have e2 : bytesOf (s.extract 3 7) = [x3, x4, x5, x6] := by rw [bytes_extract, hl]; rfl
   have e3 : bytesOf (s.extract 7 9) = [x7, x8] := by rw [bytes_extract, hl]; rfl
   have e4 : bytesOf (s.extract 9 10) = [x9] := by rw [bytes_extract, hl]; rfl
   have e5 : bytesOf (s.extract 10 11) = [x10] := by rw [bytes_extract, hl]; rfl
   have b0 : bt s 0 = x0 := bt_at hl 0
   have hS : ([x0, x1, x2, x3, x4, x5, x6, x7, x8, x9, x10, x11] : List Int).sum = x0 + (x1 + (x2 + (x3 + (x4 + (x5 + (x6 + (x7 + (x8 + (x9 + (x10 + (x11 + 0))))))))))) := by simp only [List.sum_cons, List.sum_nil]
   unfold footwayref03_Parse.f
   rw [if_neg (by omega), if_neg (by omega), ref_sum (k + 20) s (by omega) (by omega), Option.bind_some, hl, hS]
   unfold PL
   by_cases h12 : (x0 + (x1 + (x2 + (x3 + (x4 + (x5 + (x6 + (x7 + (x8 + (x9 + (x10 + (x11 + 0)))))))))))) % 256 = 0
   ·rw [if_pos h12, if_pos h12]
    rw [if_pos (by decide), if_pos (by omega), read2 (k + 15) e1 k1, Option.bind_some]
    rw [if_pos (by decide), if_pos (by omega), read4 (k + 15) e2 k3 k4 k5, Option.bind_some]
    rw [if_pos (by decide), if_pos (by omega), read2 (k + 15) e3 k7, Option.bind_some]
    rw [if_pos (by decide), if_pos (by omega), read1 (k + 15) e4, Option.bind_some]
    rw [if_pos (by decide), if_pos (by omega), read1 (k + 15) e5, Option.bind_some]
    rw [if_pos (by omega), b0]
    by_cases h : x0 = 0
    ·rw [if_pos h, ref_right, Option.bind_some]
     by_cases hr : Rt (x1 * 256 + x2) (x3 * 16777216 + x4 * 65536 + x5 * 256 + x6) (x7 * 256 + x8) x9 x10
     ·rw [if_pos (decide_eq_true hr), if_pos ⟨h, hr⟩]
     ·rw [if_neg (by simp [hr]), if_neg (fun h => hr h.2)]
    ·rw [if_neg h, if_neg (fun h' => h h'.1)]
   ·rw [if_neg h12, if_neg h12]
theorem number_step (k : Nat) {a : Int} (n m : Int) {x : ByteArray} (hn : m = n - 1) (h0 : 0 ≤ a) (h1 : a < 36028797018963968) (h2 : 0 < n) (h3 : n < 100) (hx : x.size ≤ 100) (h : footwayref03_number.f k (a / 256) m = some x) :
  footwayref03_number.f (k + 1) a n = some (x ++ strOfNums [a % 256]) := by
 subst hn
 rw [footwayref03_number.f, if_neg (by omega), Int.tdiv_eq_ediv_of_nonneg h0, Int.tmod_eq_emod_of_nonneg h0]
 rw [show wrap64 (a / 256) = a / 256 from by unfold wrap64; omega, show wrap64 (n - 1) = n - 1 from by unfold wrap64; omega, h, show a % 256 % 256 = a % 256 from by omega]
 simp only [Option.bind_some]
 rw [if_pos (by rw [str_size]; show x.size + 1 ≤ _; omega)]
theorem number0 (k : Nat) (a : Int) : footwayref03_number.f (k + 1) a 0 = some (strOfNums []) := by
 rw [footwayref03_number.f, if_pos rfl]
 rfl
theorem in256 (a : Int) : 0 ≤ a % 256 ∧ a % 256 ≤ 255 := by omega
theorem str2 (l : List Int) (a : Int) (h : ∀ x ∈ l, 0 ≤ x ∧ x ≤ 255) : strOfNums l ++ strOfNums [a % 256] = strOfNums (l ++ [a % 256]) :=
 str_cons l [a % 256] h (by intro x hx; simp only [List.mem_singleton] at hx; subst hx; exact in256 a)
theorem number1 (k : Nat) {a : Int} (h0 : 0 ≤ a) (h1 : a < 36028797018963968) : footwayref03_number.f (k + 6) a 1 = some (strOfNums [a % 256]) := by
 rw [number_step (k + 5) 1 0 rfl h0 h1 (by decide) (by decide) (by rw [str_size]; simp) (number0 (k + 4) _), str2 _ _ (by simp)]
 rfl
theorem number2 (k : Nat) {a : Int} (h0 : 0 ≤ a) (h1 : a < 36028797018963968) : footwayref03_number.f (k + 7) a 2 = some (strOfNums [a / 256 % 256, a % 256]) := by
 rw [number_step (k + 6) 2 1 rfl h0 h1 (by decide) (by decide) (by rw [str_size]; simp) (number1 k (by omega) (by omega)), str2 _ _ (by intro x hx; simp only [List.mem_singleton] at hx; subst hx; exact in256 _)]
 rfl
theorem number4 (k : Nat) {a : Int} (h0 : 0 ≤ a) (h1 : a < 36028797018963968) : footwayref03_number.f (k + 9) a 4 = some (strOfNums [a / 16777216 % 256, a / 65536 % 256, a / 256 % 256, a % 256]) := by
 have n2 := number2 k (a := a / 256 / 256) (by omega) (by omega)
 have ok2 : ∀ x ∈ [a / 256 / 256 / 256 % 256, a / 256 / 256 % 256], 0 ≤ x ∧ x ≤ 255 := by intro x hx; simp only [List.mem_cons, List.not_mem_nil, or_false] at hx; omega
 have n3 := number_step (k + 7) (a := a / 256) 3 2 rfl (by omega) (by omega) (by decide) (by decide) (by rw [str_size]; simp) n2
 rw [str2 _ _ ok2] at n3
 have ok3 : ∀ x ∈ [a / 256 / 256 / 256 % 256, a / 256 / 256 % 256] ++ [a / 256 % 256], 0 ≤ x ∧ x ≤ 255 := by intro x hx; simp only [List.cons_append, List.nil_append, List.mem_cons, List.not_mem_nil, or_false] at hx; omega
 have n4 := number_step (k + 8) (a := a) 4 3 rfl h0 h1 (by decide) (by decide) (by rw [str_size]; simp) n3
 rw [str2 _ _ ok3] at n4
 rw [n4]
 congr 2
 simp only [List.cons_append, List.nil_append, List.cons.injEq, and_true]
 refine ⟨by omega, by omega⟩
theorem ref_Print {r c b p a : Int} (k : Nat) (h : Rt r c b p a) : footwayref03_Print.f (k + 20) r c b p a = some (S12 r c b p a) := by
 have h1 := h.r
 have h2 := h.c
 have h3 := h.b
 have h4 := h.p
 have h5 := h.a
 unfold footwayref03_Print.f
 rw [number1 (k + 14) (a := 0) (by decide) (by decide), number2 (k + 13) (a := r) (by omega) (by omega), number4 (k + 11) (a := c) (by omega) (by omega), number2 (k + 13) (a := b) (by omega) (by omega), number1 (k + 14) (a := p) (by omega) (by omega), number1 (k + 14) (a := a) (by omega) (by omega)]
 simp only [Option.bind_some]
 have i1 : ∀ y : Int, ∀ x ∈ [y % 256], 0 ≤ x ∧ x ≤ 255 := by intro y x hx; simp only [List.mem_cons, List.not_mem_nil, or_false] at hx; omega
 have i2 : ∀ y z : Int, ∀ x ∈ [y % 256, z % 256], 0 ≤ x ∧ x ≤ 255 := by intro y z x hx; simp only [List.mem_cons, List.not_mem_nil, or_false] at hx; omega
 have i4 : ∀ y z u v : Int, ∀ x ∈ [y % 256, z % 256, u % 256, v % 256], 0 ≤ x ∧ x ≤ 255 := by intro y z u v x hx; simp only [List.mem_cons, List.not_mem_nil, or_false] at hx; omega
 have ok : ∀ {l l' : List Int}, (∀ x ∈ l, 0 ≤ x ∧ x ≤ 255) → (∀ x ∈ l', 0 ≤ x ∧ x ≤ 255) → ∀ x ∈ l ++ l', 0 ≤ x ∧ x ≤ 255 := by
  intro l l' hl hl' x hx
  rcases List.mem_append.1 hx with hx | hx
  ·exact hl x hx
  ·exact hl' x hx
 have o1 := ok (i1 0) (i2 (r / 256) r)
 have o2 := ok o1 (i4 (c / 16777216) (c / 65536) (c / 256) c)
 have o3 := ok o2 (i2 (b / 256) b)
 have o4 := ok o3 (i1 p)
 rw [str_cons _ _ (i1 0) (i2 _ _), if_pos (by rw [str_size, str_size]; simp), str_cons _ _ o1 (i4 _ _ _ _), if_pos (by rw [str_size, str_size]; simp), str_cons _ _ o2 (i2 _ _), if_pos (by rw [str_size, str_size]; simp), str_cons _ _ o3 (i1 _), if_pos (by rw [str_size, str_size]; simp), str_cons _ _ o4 (i1 _), if_pos (by rw [str_size, str_size]; simp)]
 have e11 : ([0 % 256] ++ [r / 256 % 256, r % 256] ++ [c / 16777216 % 256, c / 65536 % 256, c / 256 % 256, c % 256] ++ [b / 256 % 256, b % 256] ++ [p % 256] ++ [a % 256] : List Int) = L11 r c b p a := rfl
 rw [e11]
 have o11 : ∀ x ∈ L11 r c b p a, 0 ≤ x ∧ x ≤ 255 := fun x hx => by have := L11_ok r c b p a x hx; omega
 have z11 : (strOfNums (L11 r c b p a)).size = 11 := by rw [str_size]; rfl
 rw [ref_sum (k + 20) _ (by omega) (by omega), bytes_of_str _ o11]
 simp only [Option.bind_some]
 have hs : 0 ≤ (L11 r c b p a).sum % 256 ∧ (L11 r c b p a).sum % 256 < 256 := by omega
 rw [show wrap64 (256 - (L11 r c b p a).sum % 256) = 256 - (L11 r c b p a).sum % 256 from by unfold wrap64; omega, Int.tmod_eq_emod_of_nonneg (by omega), number1 (k + 14) (by omega) (by omega)]
 simp only [Option.bind_some]
 rw [str_cons _ _ o11 (i1 _), if_pos (by rw [str_size, str_size]; simp [L11])]
 congr 2
 show L11 r c b p a ++ _ = L11 r c b p a ++ [ck r c b p a]
 congr 2
 unfold ck
 omega
theorem ref_Wrap {r c b p a : Int} (k : Nat) (h : Rt r c b p a) : footwayref03_Wrap.f (k + 20) r c b p a = some (SP r c b p a) := by
 unfold footwayref03_Wrap.f footwayref03_Source.f
 simp only [Option.bind_some]
 rw [ref_Print k h, wr_b b h.b.1 h.b.2]
 simp only [Option.bind_some]
 rw [rPrint_yes (k + 13) (SP_right h)]
 rfl
theorem ref_Unwrap (k : Nat) (s : ByteArray) : footwayref03_Unwrap.f (k + 21) s = bpdu_Unwrap.f s := by
 unfold footwayref03_Unwrap.f bpdu_Unwrap.f
 rw [rParse_eq (k + 14)]
 rcases Parse_cases s with ⟨d, c, t, n, hp, hr, hs, hz⟩ | ⟨e, he, hp⟩
 ·rw [hp]
  simp only [Option.bind_some, if_true]
  by_cases h1 : d = 1652522221568
  ·rw [if_pos h1, if_pos h1]
   by_cases h2 : t = 32834
   ·rw [if_pos h2, h2, show (k + 21 : Nat) = (k + 20) + 1 from rfl, footwayref03_Unwrap.j0, if_neg (by decide), ref_Parse k n (by have := ((right_iff _ _ _ _).1 hr).2.2.2; omega)]
    unfold footwayref03_Source.f
    simp only [Option.bind_some]
   ·rw [if_neg h2, show (k + 21 : Nat) = (k + 20) + 1 from rfl, footwayref03_Unwrap.j0, if_pos (by simpa using h2)]
  ·rw [if_neg h1, if_neg h1, show (k + 21 : Nat) = (k + 20) + 1 from rfl, footwayref03_Unwrap.j0, if_pos rfl]
 ·rw [hp]
  simp only [Option.bind_some]
  rw [if_neg he, if_neg he]
end Go.Proofs.Ytnikfjfcbpeieaa.QR
end
