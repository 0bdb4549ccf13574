/- Proved: BpduTurns as a plain statement: for every config, every place and every byte, true. -/
import Derived.Test.YtnikfjfcbpeieaaMTc
import Derived.Test.YtnikfjfcbpeieaaMP3
section
namespace Go.Proofs.Ytnikfjfcbpeieaa.Pure
open Go.RowKit Go.Proofs.Ytnikfjfcbpeieaa.PBq Go.Proofs.Ytnikfjfcbpeieaa.PBp Go.Proofs.Ytnikfjfcbpeieaa.EBp Go.Proofs.Ytnikfjfcbpeieaa.EFrame Go.Proofs.Ytnikfjfcbpeieaa.QF Go.Proofs.Ytnikfjfcbpeieaa.QB Go.Proofs.YtnikfjfcbpeieaaW.PrintWords Go.Proofs.YtnikfjfcbpeieaaW.PrintLast Go.Proofs.YtnikfjfcbpeieaaW.PrintMore
set_option linter.unusedVariables false
set_option linter.unusedSimpArgs false

theorem place (at_ : Int) : ∃ n : Nat, n < 12 ∧ Int.tmod (wrap64 (Int.tmod at_ 12 + 12)) 12 = (n : Int) := by
  have h1 : -12 < Int.tmod at_ 12 := Int.lt_tmod_of_pos at_ (by decide)
  have h2 : Int.tmod at_ 12 < 12 := Int.tmod_lt_of_pos at_ (by decide)
  generalize Int.tmod at_ 12 = x at h1 h2 ⊢
  have e : wrap64 (x + 12) = x + 12 := by unfold wrap64; omega
  rw [e, Int.tmod_eq_emod_of_nonneg (by omega)]
  exact ⟨((x + 12) % 12).toNat, by omega, by omega⟩
theorem set_eq (l : List Int) (n : Nat) (y : Int) (h : n < l.length) : l.take n ++ ([y] ++ l.drop (n + 1)) = l.set n y := by
  rw [List.set_eq_take_append_cons_drop, if_pos h]
  rfl
theorem BpduTurns (r c b p a at_ y : Int) (hy : 0 ≤ y ∧ y ≤ 255) : footwaylaw03_BpduTurns.f 2000 r c b p a at_ y = some true := by
  unfold footwaylaw03_BpduTurns.f
  rw [Print_eq]
  by_cases h : Rt r c b p a
  · rw [if_pos h]
    simp only [Option.bind_some, if_true]
    have hl : bytesOf (strOfNums (L12 r c b p a)) = L12 r c b p a := bytes_of_str _ (L12_le r c b p a)
    have hz : (strOfNums (L12 r c b p a)).size = 12 := by rw [str_size, L12_len]
    have hpp := Parse_Print h
    have hsum := L12_sum r c b p a
    have hok := L12_ok r c b p a
    have hlen := L12_len r c b p a
    generalize L12 r c b p a = l at hl hz hpp hsum hok hlen ⊢
    generalize strOfNums l = S at hl hz hpp ⊢
    rw [show ((S.size : Int) != 12) = false by rw [hz]; rfl]
    obtain ⟨n, hn, hq⟩ := place at_
    rw [show (2000 : Nat) = 1999 + 1 from rfl, footwaylaw03_BpduTurns.j0]
    simp only [hq, Option.bind_some]
    have hw : wrap64 ((n : Int) + 1) = ((n + 1 : Nat) : Int) := by unfold wrap64; omega
    have z1 : (S.extract 0 ((n : Int).toNat)).size = n := by rw [ByteArray.size_extract, Int.toNat_natCast]; omega
    have z2 : (strOfNums [y]).size = 1 := str_size _
    have z3 : (S.extract (((n + 1 : Nat) : Int).toNat) S.size).size = 11 - n := by rw [ByteArray.size_extract, Int.toNat_natCast]; omega
    rw [if_neg (by simp), if_pos (by omega), if_pos (by omega), if_pos (by omega)]
    rw [hw, if_pos (by omega), if_pos (by omega), if_pos (by rw [ByteArray.size_append]; omega)]
    have hT : bytesOf ((S.extract 0 ((n : Int).toNat) ++ strOfNums [y]) ++ S.extract (((n + 1 : Nat) : Int).toNat) S.size) = l.set n y := by
      rw [bytes_append, bytes_append, bytes_extract, bytes_extract, hl, Int.toNat_natCast, Int.toNat_natCast, bytes_of_str _ (by simpa using hy), hz, List.drop_zero, (List.take_of_length_le (by omega) : l.take 12 = l), List.append_assoc]
      exact set_eq l n y (by omega)
    have hTz : ((S.extract 0 ((n : Int).toNat) ++ strOfNums [y]) ++ S.extract (((n + 1 : Nat) : Int).toNat) S.size).size = 12 := by
      rw [ByteArray.size_append, ByteArray.size_append]; omega
    generalize (S.extract 0 ((n : Int).toNat) ++ strOfNums [y]) ++ S.extract (((n + 1 : Nat) : Int).toNat) S.size = T at hT hTz ⊢
    by_cases hTS : T.toList = S.toList
    · obtain rfl := tl_inj hTS
      rw [hpp]
      simp [alive_eq]
    · have hne : l.getD n 0 ≠ y := fun e => by
        refine hTS ?_
        have : l.set n y = l := by
          rw [← e]
          apply List.ext_getElem (by simp)
          intro i h1 h2
          rw [List.getElem_set]
          split
          · rename_i e2
            subst e2
            simp [List.getD_eq_getElem?_getD, List.getElem?_eq_getElem h2]
          · rfl
        rw [this, ← hl] at hT
        rw [bytes_inj hT]
      have hs := sum_set l n y (by omega)
      have hr := hok (l.getD n 0) (by
        have : n < l.length := by omega
        simp [List.getD_eq_getElem?_getD, List.getElem?_eq_getElem this])
      rw [Parse_sum T hTz (by rw [hT]; omega)]
      simp [hTS, alive_eq]
  · rw [if_neg h]
    simp only [Option.bind_some]
    rw [if_neg (by decide), show (2000 : Nat) = 1999 + 1 from rfl, footwaylaw03_BpduTurns.j0]
    simp [alive_eq]
end Go.Proofs.Ytnikfjfcbpeieaa.Pure
end
