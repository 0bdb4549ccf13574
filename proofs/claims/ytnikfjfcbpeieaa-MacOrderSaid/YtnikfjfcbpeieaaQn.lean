/- Texts of addresses as plain numbers: one undoes the other. -/
import Derived.Test.YtnikfjfcbpeieaaQm
import Derived.Test.YtnikfjfcbpeieaaPBbx2
namespace Go.Proofs.Ytnikfjfcbpeieaa.QM
open Go.RowKit Go.Proofs.Ytnikfjfcbpeieaa.PBa Go.Proofs.Ytnikfjfcbpeieaa.PBb Go.Proofs.Ytnikfjfcbpeieaa.EFrame Go.Proofs.Ytnikfjfcbpeieaa.EMac Go.Proofs.Ytnikfjfcbpeieaa.EPr Go.Proofs.Ytnikfjfcbpeieaa.EOn Go.Proofs.Ytnikfjfcbpeieaa.QF Go.Proofs.YtnikfjfcbpeieaaW.PrintWords Go.Proofs.YtnikfjfcbpeieaaW.PrintLast Go.Proofs.YtnikfjfcbpeieaaW.PrintMore
set_option linter.unusedVariables false
set_option linter.unusedSimpArgs false

theorem dig_eq (n : Int) (h0 : 0 ≤ n) (h1 : n ≤ 15) : dig n = if n < 10 then 48 + n else 87 + n := by
  have h : ∀ n : Fin 16, dig (n.val : Int) = if (n.val : Int) < 10 then 48 + (n.val : Int) else 87 + (n.val : Int) := by decide +kernel
  have := h ⟨n.toNat, by omega⟩
  rw [show ((n.toNat : Nat) : Int) = n from by omega] at this
  exact this

theorem dig_val (n : Int) (h0 : 0 ≤ n) (h1 : n ≤ 15) : tv 16 (dig n).toNat = n + 1 := by
  have e := dig_eq n h0 h1
  rw [tv_val _ (by rw [e]; split <;> omega) (by rw [e]; split <;> omega), e]
  unfold val
  split <;> split <;> (try split) <;> omega

theorem val_dig (c : Int) (h0 : 0 ≤ c) (h1 : c ≤ 255) (hv : ¬ tv 16 c.toNat = 0) : 0 ≤ tv 16 c.toNat - 1 ∧ tv 16 c.toNat - 1 ≤ 15 ∧ dig (tv 16 c.toNat - 1) = c := by
  have e := tv_val c h0 h1
  rw [e] at hv ⊢
  have hb : 0 ≤ val c ∧ val c ≤ 15 := by unfold val at hv ⊢; split <;> (try split) <;> omega
  rw [show val c + 1 - 1 = val c from by omega]
  refine ⟨hb.1, hb.2, ?_⟩
  rw [dig_eq _ hb.1 hb.2]
  unfold val at hv hb ⊢
  split <;> split <;> (try split) <;> omega

theorem rdig_eq (n : Int) (h0 : 0 ≤ n) (h1 : n ≤ 15) : footwayref01_digit.f n = some (strOfNums [dig n]) := by
  unfold footwayref01_digit.f
  rw [dig_eq n h0 h1]
  by_cases h : n < 10
  · rw [if_pos h, if_pos h, show wrap64 (48 + n) % 256 = 48 + n from by unfold wrap64; omega]
  · rw [if_neg h, if_neg h, show wrap64 (87 + n) % 256 = 87 + n from by unfold wrap64; omega]

theorem dig_ok (n : Int) : 0 ≤ dig n ∧ dig n ≤ 255 := bt_range _ _

theorem rprint_go (s : ByteArray) (hs : s.size = 6) (d : Nat) : ∀ (k i : Nat), i + d = 6 → d < k → footwayref01_Print.l0 k (strOfNums (txt s i)) s (i : Int) = some (strOfNums (txt s 6)) := by
  induction d with
  | zero =>
    intro k i hi hk
    obtain ⟨k, rfl⟩ : ∃ m, k = m + 1 := ⟨k - 1, by omega⟩
    obtain rfl : i = 6 := by omega
    rw [footwayref01_Print.l0, if_neg (by decide)]
  | succ d ih =>
    intro k i hi hk
    obtain ⟨k, rfl⟩ : ∃ m, k = m + 1 := ⟨k - 1, by omega⟩
    have hb := bt_range s i
    have hl := txt_len s i
    have hok := txt_ok s i
    have hw : wrap64 ((i : Int) + 1) = ((i + 1 : Nat) : Int) := by unfold wrap64; omega
    have e1 : wrap64 (Int.tdiv (wrap64 (bt s i)) 16) = bt s i / 16 := by
      rw [show wrap64 (bt s i) = bt s i from by unfold wrap64; omega, Int.tdiv_eq_ediv_of_nonneg hb.1]; unfold wrap64; omega
    have e2 : Int.tmod (wrap64 (bt s i)) 16 = bt s i % 16 := by
      rw [show wrap64 (bt s i) = bt s i from by unfold wrap64; omega, Int.tmod_eq_emod_of_nonneg hb.1]
    have z1 : ∀ n, (strOfNums [dig n]).size = 1 := fun n => by rw [str_size]; rfl
    have zt : (strOfNums (txt s i)).size = (txt s i).length := str_size _
    have o1 : ∀ n, ∀ x ∈ [dig n], 0 ≤ x ∧ x ≤ 255 := fun n x hx => by
      have : x = dig n := by simpa using hx
      rw [this]; exact dig_ok n
    have o58 : ∀ x ∈ [(58 : Int)], 0 ≤ x ∧ x ≤ 255 := by simp
    have c58 : (⟨#[58]⟩ : ByteArray) = strOfNums [58] := rfl
    have z58 : (⟨#[58]⟩ : ByteArray).size = 1 := rfl
    rw [footwayref01_Print.l0, if_pos (by omega), e1, e2, rdig_eq _ (by omega) (by omega), rdig_eq _ (by omega) (by omega), hw]
    have IH := ih k (i + 1) (by omega) (by omega)
    simp only [Option.bind_some]
    by_cases h0 : (i : Int) > 0
    · rw [if_pos h0, if_pos (by omega), if_pos (by omega), if_pos (by omega)]
      rw [if_pos (by rw [ByteArray.size_append, z1, z58]; omega), if_pos (by rw [ByteArray.size_append, ByteArray.size_append, z1, z1, z58]; omega)]
      rw [← IH]
      congr 1
      apply bytes_inj
      rw [c58, bytes_append, bytes_append, bytes_append, bytes_of_str _ hok, bytes_of_str _ o58, bytes_of_str _ (o1 _), bytes_of_str _ (o1 _), bytes_of_str _ (txt_ok s (i + 1))]
      simp only [txt]
      rw [if_neg (by omega)]
      simp only [List.append_assoc, List.cons_append, List.nil_append]
    · rw [if_neg h0, if_pos (by omega), if_pos (by omega)]
      rw [if_pos (by rw [z1]; omega), if_pos (by rw [ByteArray.size_append, z1, z1]; omega)]
      rw [← IH]
      congr 1
      apply bytes_inj
      rw [bytes_append, bytes_append, bytes_of_str _ hok, bytes_of_str _ (o1 _), bytes_of_str _ (o1 _), bytes_of_str _ (txt_ok s (i + 1))]
      simp only [txt]
      rw [if_pos (by omega)]
      simp only [List.append_assoc, List.cons_append, List.nil_append]

theorem rprint_all (s : ByteArray) (hs : s.size = 6) (k : Nat) (hk : 6 < k) : footwayref01_Print.l0 k (⟨#[]⟩ : ByteArray) s 0 = some (strOfNums (txt s 6)) := by
  have h := rprint_go s hs 6 k 0 (by omega) hk
  have e : strOfNums (txt s 0) = (⟨#[]⟩ : ByteArray) := by simp only [txt]; rfl
  rw [e] at h
  exact h

theorem rPrint_eq {a : Int} (h0 : 0 ≤ a) (h1 : a ≤ 281474976710655) (k : Nat) (hk : 10 ≤ k) : footwayref01_Print.f k a = some (strOfNums (txt (strOfNums (b6 a)) 6)) := by
  have hB := rBytes_eq (k - 7) h0 h1
  rw [show k - 7 + 7 = k from by omega] at hB
  have hz : (strOfNums (b6 a)).size = 6 := by rw [str_size]; rfl
  unfold footwayref01_Print.f
  rw [hB]
  simp only [Option.bind_some]
  exact rprint_all _ hz k (by omega)
end Go.Proofs.Ytnikfjfcbpeieaa.QM
