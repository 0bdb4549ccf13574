/- Texts of addresses: what is told is read as it was, and what is read is told as it was. -/
import Derived.Test.YtnikfjfcbpeieaaQn
namespace Go.Proofs.Ytnikfjfcbpeieaa.QM
open Go.RowKit Go.Proofs.Ytnikfjfcbpeieaa.PBa Go.Proofs.Ytnikfjfcbpeieaa.PBb Go.Proofs.Ytnikfjfcbpeieaa.EFrame Go.Proofs.Ytnikfjfcbpeieaa.EMac Go.Proofs.Ytnikfjfcbpeieaa.EPr Go.Proofs.Ytnikfjfcbpeieaa.EOn Go.Proofs.Ytnikfjfcbpeieaa.QF Go.Proofs.YtnikfjfcbpeieaaW.PrintWords Go.Proofs.YtnikfjfcbpeieaaW.PrintLast Go.Proofs.YtnikfjfcbpeieaaW.PrintMore
set_option linter.unusedVariables false
set_option linter.unusedSimpArgs false

theorem pst_dig (s : ByteArray) (k : Nat) (a n : Int) (h : pst s k = some a) (h3 : ¬ k % 3 = 2) (hb : bt s k = dig n) (h0 : 0 ≤ n) (h1 : n ≤ 15) : pst s (k + 1) = some (a * 16 + n) := by
  simp only [pst, h, Option.bind_some]
  rw [if_neg h3, hb, dig_val n h0 h1, if_neg (by omega)]
  congr 1; omega
theorem pst_col (s : ByteArray) (k : Nat) (a : Int) (h : pst s k = some a) (h3 : k % 3 = 2) (hb : bt s k = 58) : pst s (k + 1) = some a := by
  simp only [pst, h, Option.bind_some]
  rw [if_pos h3, if_pos hb]
theorem inv_dig {s : ByteArray} {k : Nat} {a : Int} (h : pst s (k + 1) = some a) (h3 : ¬ k % 3 = 2) : ∃ a0 n, pst s k = some a0 ∧ (0 ≤ n ∧ n ≤ 15) ∧ bt s k = dig n ∧ a = a0 * 16 + n := by
  simp only [pst] at h
  obtain ⟨a0, h0, h⟩ := Option.bind_eq_some_iff.1 h
  rw [if_neg h3] at h
  split at h
  · cases h
  · rename_i hv
    have hb := bt_range s k
    obtain ⟨v0, v1, v2⟩ := val_dig _ hb.1 hb.2 hv
    exact ⟨a0, _, h0, ⟨v0, v1⟩, v2.symm, (Option.some.inj h).symm⟩
theorem inv_col {s : ByteArray} {k : Nat} {a : Int} (h : pst s (k + 1) = some a) (h3 : k % 3 = 2) : pst s k = some a ∧ bt s k = 58 := by
  simp only [pst] at h
  obtain ⟨a0, h0, h⟩ := Option.bind_eq_some_iff.1 h
  rw [if_pos h3] at h
  split at h
  · rename_i hb
    exact ⟨by rw [h0, Option.some.inj h], hb⟩
  · cases h

theorem bt_list (s : ByteArray) (l : List Int) (h : bytesOf s = l) (k : Nat) : bt s k = l.getD k 0 := by
  rw [← rd_bytesOf, h]
  rfl

theorem txt_list (s : ByteArray) (x0 x1 x2 x3 x4 x5 : Int) (h : bytesOf s = [x0, x1, x2, x3, x4, x5]) : txt s 6 = [dig (x0 / 16), dig (x0 % 16), 58, dig (x1 / 16), dig (x1 % 16), 58, dig (x2 / 16), dig (x2 % 16), 58, dig (x3 / 16), dig (x3 % 16), 58, dig (x4 / 16), dig (x4 % 16), 58, dig (x5 / 16), dig (x5 % 16)] := by
  have g := bt_list s _ h
  have g0 : bt s (0 : Nat) = x0 := g 0
  have g1 : bt s (1 : Nat) = x1 := g 1
  have g2 : bt s (2 : Nat) = x2 := g 2
  have g3 : bt s (3 : Nat) = x3 := g 3
  have g4 : bt s (4 : Nat) = x4 := g 4
  have g5 : bt s (5 : Nat) = x5 := g 5
  simp only [txt, g0, g1, g2, g3, g4, g5]
  rfl

theorem pst_txt (s : ByteArray) (x0 x1 x2 x3 x4 x5 : Int) (h0 : 0 ≤ x0 ∧ x0 ≤ 255) (h1 : 0 ≤ x1 ∧ x1 ≤ 255) (h2 : 0 ≤ x2 ∧ x2 ≤ 255) (h3 : 0 ≤ x3 ∧ x3 ≤ 255) (h4 : 0 ≤ x4 ∧ x4 ≤ 255) (h5 : 0 ≤ x5 ∧ x5 ≤ 255) (h : bytesOf s = [dig (x0 / 16), dig (x0 % 16), 58, dig (x1 / 16), dig (x1 % 16), 58, dig (x2 / 16), dig (x2 % 16), 58, dig (x3 / 16), dig (x3 % 16), 58, dig (x4 / 16), dig (x4 % 16), 58, dig (x5 / 16), dig (x5 % 16)]) : pst s 17 = some (x0 * 1099511627776 + x1 * 4294967296 + x2 * 16777216 + x3 * 65536 + x4 * 256 + x5) := by
  have g := bt_list s _ h
  have p0 : pst s 0 = some 0 := rfl
  have p1 := pst_dig s 0 _ (x0 / 16) p0 (by decide) (g 0) (by omega) (by omega)
  have p2 := pst_dig s 1 _ (x0 % 16) p1 (by decide) (g 1) (by omega) (by omega)
  have p3 := pst_col s 2 _ p2 rfl (g 2)
  have p4 := pst_dig s 3 _ (x1 / 16) p3 (by decide) (g 3) (by omega) (by omega)
  have p5 := pst_dig s 4 _ (x1 % 16) p4 (by decide) (g 4) (by omega) (by omega)
  have p6 := pst_col s 5 _ p5 rfl (g 5)
  have p7 := pst_dig s 6 _ (x2 / 16) p6 (by decide) (g 6) (by omega) (by omega)
  have p8 := pst_dig s 7 _ (x2 % 16) p7 (by decide) (g 7) (by omega) (by omega)
  have p9 := pst_col s 8 _ p8 rfl (g 8)
  have p10 := pst_dig s 9 _ (x3 / 16) p9 (by decide) (g 9) (by omega) (by omega)
  have p11 := pst_dig s 10 _ (x3 % 16) p10 (by decide) (g 10) (by omega) (by omega)
  have p12 := pst_col s 11 _ p11 rfl (g 11)
  have p13 := pst_dig s 12 _ (x4 / 16) p12 (by decide) (g 12) (by omega) (by omega)
  have p14 := pst_dig s 13 _ (x4 % 16) p13 (by decide) (g 13) (by omega) (by omega)
  have p15 := pst_col s 14 _ p14 rfl (g 14)
  have p16 := pst_dig s 15 _ (x5 / 16) p15 (by decide) (g 15) (by omega) (by omega)
  have p17 := pst_dig s 16 _ (x5 % 16) p16 (by decide) (g 16) (by omega) (by omega)
  rw [p17]
  congr 1
  omega

theorem list17 {l : List Int} (h : l.length = 17) : l = [rd l 0, rd l 1, rd l 2, rd l 3, rd l 4, rd l 5, rd l 6, rd l 7, rd l 8, rd l 9, rd l 10, rd l 11, rd l 12, rd l 13, rd l 14, rd l 15, rd l 16] := by
  rcases l with _ | ⟨a0, _ | ⟨a1, _ | ⟨a2, _ | ⟨a3, _ | ⟨a4, _ | ⟨a5, _ | ⟨a6, _ | ⟨a7, _ | ⟨a8, _ | ⟨a9, _ | ⟨a10, _ | ⟨a11, _ | ⟨a12, _ | ⟨a13, _ | ⟨a14, _ | ⟨a15, _ | ⟨a16, _ | ⟨z, l⟩⟩⟩⟩⟩⟩⟩⟩⟩⟩⟩⟩⟩⟩⟩⟩⟩⟩ <;> first | rfl | (simp at h)

theorem pst_back (s : ByteArray) (hs : s.size = 17) (a : Int) (h : pst s 17 = some a) : strOfNums (txt (strOfNums (b6 a)) 6) = s := by
  have q17 := h
  obtain ⟨a16, n11, q16, r11, c16, e16⟩ := inv_dig q17 (by decide)
  obtain ⟨a15, n10, q15, r10, c15, e15⟩ := inv_dig q16 (by decide)
  obtain ⟨q14, c14⟩ := inv_col q15 (by decide)
  obtain ⟨a13, n9, q13, r9, c13, e13⟩ := inv_dig q14 (by decide)
  obtain ⟨a12, n8, q12, r8, c12, e12⟩ := inv_dig q13 (by decide)
  obtain ⟨q11, c11⟩ := inv_col q12 (by decide)
  obtain ⟨a10, n7, q10, r7, c10, e10⟩ := inv_dig q11 (by decide)
  obtain ⟨a9, n6, q9, r6, c9, e9⟩ := inv_dig q10 (by decide)
  obtain ⟨q8, c8⟩ := inv_col q9 (by decide)
  obtain ⟨a7, n5, q7, r5, c7, e7⟩ := inv_dig q8 (by decide)
  obtain ⟨a6, n4, q6, r4, c6, e6⟩ := inv_dig q7 (by decide)
  obtain ⟨q5, c5⟩ := inv_col q6 (by decide)
  obtain ⟨a4, n3, q4, r3, c4, e4⟩ := inv_dig q5 (by decide)
  obtain ⟨a3, n2, q3, r2, c3, e3⟩ := inv_dig q4 (by decide)
  obtain ⟨q2, c2⟩ := inv_col q3 (by decide)
  obtain ⟨a1, n1, q1, r1, c1, e1⟩ := inv_dig q2 (by decide)
  obtain ⟨a0, n0, q0, r0, c0, e0⟩ := inv_dig q1 (by decide)
  have z0 : a0 = 0 := by simpa [pst] using q0.symm
  have hl := list17 (l := bytesOf s) (by rw [bytes_len]; exact hs)
  simp only [rd_bytesOf] at hl
  have ha : a = (n0 * 16 + n1) * 1099511627776 + (n2 * 16 + n3) * 4294967296 + (n4 * 16 + n5) * 16777216 + (n6 * 16 + n7) * 65536 + (n8 * 16 + n9) * 256 + (n10 * 16 + n11) := by omega
  have hb := b6_num (x0 := n0 * 16 + n1) (x1 := n2 * 16 + n3) (x2 := n4 * 16 + n5) (x3 := n6 * 16 + n7) (x4 := n8 * 16 + n9) (x5 := n10 * 16 + n11) (by omega) (by omega) (by omega) (by omega) (by omega) (by omega)
  rw [← ha] at hb
  have ho : ∀ x ∈ b6 a, 0 ≤ x ∧ x ≤ 255 := by
    intro x hx
    rw [hb] at hx
    simp only [List.mem_cons, List.not_mem_nil, or_false] at hx
    omega
  have ht := txt_list (strOfNums (b6 a)) _ _ _ _ _ _ (by rw [bytes_of_str _ ho, hb])
  apply bytes_inj
  rw [bytes_of_str _ (txt_ok _ 6), ht, hl]
  simp only [show bt s (0 : Int) = _ from c0, show bt s (1 : Int) = _ from c1, show bt s (2 : Int) = _ from c2, show bt s (3 : Int) = _ from c3, show bt s (4 : Int) = _ from c4, show bt s (5 : Int) = _ from c5, show bt s (6 : Int) = _ from c6, show bt s (7 : Int) = _ from c7, show bt s (8 : Int) = _ from c8, show bt s (9 : Int) = _ from c9, show bt s (10 : Int) = _ from c10, show bt s (11 : Int) = _ from c11, show bt s (12 : Int) = _ from c12, show bt s (13 : Int) = _ from c13, show bt s (14 : Int) = _ from c14, show bt s (15 : Int) = _ from c15, show bt s (16 : Int) = _ from c16]
  rw [show (n0 * 16 + n1) / 16 = n0 from by omega, show (n0 * 16 + n1) % 16 = n1 from by omega]
  rw [show (n2 * 16 + n3) / 16 = n2 from by omega, show (n2 * 16 + n3) % 16 = n3 from by omega]
  rw [show (n4 * 16 + n5) / 16 = n4 from by omega, show (n4 * 16 + n5) % 16 = n5 from by omega]
  rw [show (n6 * 16 + n7) / 16 = n6 from by omega, show (n6 * 16 + n7) % 16 = n7 from by omega]
  rw [show (n8 * 16 + n9) / 16 = n8 from by omega, show (n8 * 16 + n9) % 16 = n9 from by omega]
  rw [show (n10 * 16 + n11) / 16 = n10 from by omega, show (n10 * 16 + n11) % 16 = n11 from by omega]
end Go.Proofs.Ytnikfjfcbpeieaa.QM
