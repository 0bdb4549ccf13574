/- Proved: FrameMore as a plain statement: for every frame and every byte, true. -/
import Derived.Test.YtnikfjfcbpeieaaPureFrameBack
import Derived.Test.YtnikfjfcbpeieaaPFrx3
namespace Go.Proofs.Ytnikfjfcbpeieaa.Pure
open Go.RowKit Go.Proofs.Ytnikfjfcbpeieaa.PBa Go.Proofs.Ytnikfjfcbpeieaa.EFrame Go.Proofs.Ytnikfjfcbpeieaa.EMac Go.Proofs.Ytnikfjfcbpeieaa.QF Go.Proofs.Ytnikfjfcbpeieaa.PFr Go.Proofs.YtnikfjfcbpeieaaW.PrintWords Go.Proofs.YtnikfjfcbpeieaaW.PrintLast Go.Proofs.YtnikfjfcbpeieaaW.PrintMore
set_option linter.unusedVariables false
set_option linter.unusedSimpArgs false

theorem P_snoc (d c t b : Int) (n : ByteArray) (hd : 0 ≤ d ∧ d ≤ 281474976710655) (hc : 0 ≤ c ∧ c ≤ 281474976710655) (hb : 0 ≤ b ∧ b ≤ 255) : strOfNums (P d c t n) ++ strOfNums [b] = strOfNums (P d c t (n ++ strOfNums [b])) := by
  have hb' : ∀ x ∈ [b], 0 ≤ x ∧ x ≤ 255 := by simpa using hb
  apply bytes_inj
  rw [bytes_append, bytes_of_str _ (P_ok hd hc), bytes_of_str _ hb', bytes_of_str _ (P_ok hd hc)]
  unfold P
  rw [bytes_append, bytes_of_str _ hb']
  simp only [List.append_assoc]

theorem FrameMore (d c t b : Int) (n0 : ByteArray) (hb : 0 ≤ b ∧ b ≤ 255) : footwaylaw02_FrameMore.f 2000 d c t n0 b = some true := by
  unfold footwaylaw02_FrameMore.f
  rw [few_eq]
  simp only [Option.bind_some]
  generalize n0.extract 0 (min n0.size 130) = n
  obtain ⟨r, hr⟩ := right_total d c t n
  cases r
  · rw [Print_no 2000 hr]
    simp only [Option.bind_some]
    rw [if_neg (by decide), alive_eq]
    simp
  · obtain ⟨hk, hd, ht, hn⟩ := (right_iff _ _ _ _).1 hr
    have hc := class_right hk
    rw [show (2000 : Nat) = 1995 + 5 from rfl, Print_yes 1995 hr]
    simp only [Option.bind_some, if_true]
    have hz : (strOfNums (P d c t n)).size = 14 + n.size := by rw [str_size, P_len]
    have h1 : (strOfNums [b]).size = 1 := by rw [str_size]; rfl
    rw [if_pos (by omega), P_snoc d c t b n hd hc hb, alive_eq]
    have hz2 : (n ++ strOfNums [b]).size = n.size + 1 := by rw [ByteArray.size_append, h1]
    by_cases h100 : n.size = 100
    · have hp : frame_Parse.f (strOfNums (P d c t (n ++ strOfNums [b]))) = some (0, 0, 0, ⟨#[]⟩, 8) := by
        have : (strOfNums (P d c t (n ++ strOfNums [b]))).size = 115 := by rw [str_size, P_len, hz2]; omega
        unfold frame_Parse.f
        rw [if_neg (by omega), if_pos (by omega)]
      rw [hp]
      simp only [Option.bind_some]
      rw [if_pos (by omega)]
      simp
    · have hr2 : frame_Right.f d c t (n ++ strOfNums [b]) = some true := (right_iff _ _ _ _).2 ⟨hk, hd, ht, by omega⟩
      rw [Parse_P hr2]
      simp only [Option.bind_some]
      rw [if_neg (by omega), if_pos (by omega)]
      have e : mn ((strOfNums (P d c t n)).size : Int) 13 = 13 := by unfold mn; split <;> omega
      rw [e, if_pos (by decide), if_pos (by omega)]
      have hp : frame_Parse.f ((strOfNums (P d c t n)).extract 0 (13 : Int).toNat) = some (0, 0, 0, ⟨#[]⟩, 7) := by
        have : ((strOfNums (P d c t n)).extract 0 (13 : Int).toNat).size = 13 := by rw [ByteArray.size_extract]; show min 13 _ - 0 = 13; omega
        unfold frame_Parse.f
        rw [if_pos (by omega)]
      rw [hp]
      simp
end Go.Proofs.Ytnikfjfcbpeieaa.Pure
