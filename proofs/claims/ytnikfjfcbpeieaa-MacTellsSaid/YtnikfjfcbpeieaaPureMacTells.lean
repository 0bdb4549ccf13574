/- Proved: MacTells as a plain statement. -/
import Derived.Test.YtnikfjfcbpeieaaPMax2
import Derived.Test.YtnikfjfcbpeieaaQn
namespace Go.Proofs.Ytnikfjfcbpeieaa.Pure
open Go.RowKit Go.Proofs.Ytnikfjfcbpeieaa.PBa Go.Proofs.Ytnikfjfcbpeieaa.PBb Go.Proofs.Ytnikfjfcbpeieaa.EFrame Go.Proofs.Ytnikfjfcbpeieaa.EMac Go.Proofs.Ytnikfjfcbpeieaa.EPr Go.Proofs.Ytnikfjfcbpeieaa.EOn Go.Proofs.Ytnikfjfcbpeieaa.QF Go.Proofs.Ytnikfjfcbpeieaa.QM Go.Proofs.Ytnikfjfcbpeieaa.PMa Go.Proofs.YtnikfjfcbpeieaaW.PrintWords Go.Proofs.YtnikfjfcbpeieaaW.PrintLast
set_option linter.unusedVariables false
set_option linter.unusedSimpArgs false

theorem MacTellsK (a : Int) : footwaylaw01_MacTells.f 2000 a = some true := by
  unfold footwaylaw01_MacTells.f
  rw [macRight_eq, rRight_eq, QM.alive_eq]
  by_cases h : 0 ≤ a ∧ a ≤ 281474976710655
  · have hz : (strOfNums (b6 a)).size = 6 := by rw [str_size]; rfl
    have hB : mac_Bytes.f a = some (strOfNums (b6 a), 0) := by unfold mac_Bytes.f; rw [if_pos h]
    have hP : mac_Print.f a = some (strOfNums (txt (strOfNums (b6 a)) 6), 0) := by unfold mac_Print.f; rw [hB]; simp only [Option.map_some, hz]
    rw [Class_yes h.1 h.2, hB, hP]
    simp only [Option.bind_some, bne_self_eq_false]
    rw [if_neg (by decide), show (2000 : Nat) = 1999 + 1 from rfl, footwaylaw01_MacTells.j0, if_neg (by decide), rRight_eq, decide_eq_true h]
    simp only [Option.bind_some, if_true]
    rw [rClass_eq h.1 h.2, show (1999 : Nat) = 1992 + 7 from rfl, rBytes_eq 1992 h.1 h.2, rPrint_eq h.1 h.2 _ (by decide)]
    simp
  · have hB : mac_Bytes.f a = some (⟨#[]⟩, 1) := by unfold mac_Bytes.f; rw [if_neg h]
    have hP : mac_Print.f a = some (⟨#[]⟩, 1) := by unfold mac_Print.f; rw [hB]; rfl
    rw [Class_no h, hB, hP]
    simp only [Option.bind_some, bne_self_eq_false]
    rw [if_neg (by decide), show (2000 : Nat) = 1999 + 1 from rfl, footwaylaw01_MacTells.j0, if_neg (by decide), rRight_eq, decide_eq_false h]
    simp only [Option.bind_some]
    rw [if_neg (by decide)]
    have e0 : (⟨#[]⟩ : ByteArray).toList = [] := by simp
    simp [e0]
end Go.Proofs.Ytnikfjfcbpeieaa.Pure
