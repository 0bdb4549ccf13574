/- Proved: MacReads as a plain statement. -/
import Derived.Test.YtnikfjfcbpeieaaPMax1
import Derived.Test.YtnikfjfcbpeieaaQm
namespace Go.Proofs.Ytnikfjfcbpeieaa.Pure
open Go.RowKit Go.Proofs.Ytnikfjfcbpeieaa.PBa Go.Proofs.Ytnikfjfcbpeieaa.EFrame Go.Proofs.Ytnikfjfcbpeieaa.EMac Go.Proofs.Ytnikfjfcbpeieaa.EPr Go.Proofs.Ytnikfjfcbpeieaa.EOn Go.Proofs.Ytnikfjfcbpeieaa.QF Go.Proofs.Ytnikfjfcbpeieaa.QM Go.Proofs.Ytnikfjfcbpeieaa.PMa Go.Proofs.YtnikfjfcbpeieaaW.PrintWords Go.Proofs.YtnikfjfcbpeieaaW.PrintLast
set_option linter.unusedVariables false
set_option linter.unusedSimpArgs false

theorem MacReadsK (a0 a1 : ByteArray) : footwaylaw01_MacReads.f 2000 a0 a1 = some true := by
  unfold footwaylaw01_MacReads.f
  have e0 : mn (a0.size : Int) 20 = ((min a0.size 20 : Nat) : Int) := by unfold mn; split <;> omega
  have e1 : mn (a1.size : Int) 30 = ((min a1.size 30 : Nat) : Int) := by unfold mn; split <;> omega
  rw [e0, e1, if_pos (by omega), if_pos (by omega), if_pos (by omega), if_pos (by omega)]
  generalize a0.extract 0 (((min a0.size 20 : Nat) : Int)).toNat = s
  generalize a1.extract 0 (((min a1.size 30 : Nat) : Int)).toNat = t
  rw [QM.rParse_eq t 2000 (by decide)]
  obtain ⟨p, e, hp⟩ : ∃ p e, mac_Parse.f t = some (p, e) := by
    unfold mac_Parse.f
    split
    · exact ⟨_, _, rfl⟩
    · split
      · exact ⟨_, _, rfl⟩
      · split
        · exact ⟨_, _, rfl⟩
        · exact ⟨_, _, rfl⟩
  rw [hp, QM.alive_eq]
  by_cases h0 : s.size < 6
  · have ho : mac_Of.f 2000 s = some (0, 7) := by unfold mac_Of.f; rw [if_pos (by omega)]
    rw [ho]
    simp only [Option.bind_some, if_true]
    rw [show (2000 : Nat) = 1999 + 1 from rfl, footwaylaw01_MacReads.j0, if_neg (by decide), if_pos (by omega)]
    rfl
  · by_cases h1 : 6 < s.size
    · have ho : mac_Of.f 2000 s = some (0, 8) := by unfold mac_Of.f; rw [if_neg (by omega), if_pos (by omega)]
      rw [ho]
      simp only [Option.bind_some, if_true]
      rw [show (2000 : Nat) = 1999 + 1 from rfl, footwaylaw01_MacReads.j0, if_neg (by decide), if_neg (by omega), if_pos (by omega)]
      rfl
    · have ho : mac_Of.f 2000 s = some (num6 s 0, 0) := Of_num 1993 s (by omega)
      rw [ho]
      simp only [Option.bind_some, if_true]
      rw [show (2000 : Nat) = 1999 + 1 from rfl, footwaylaw01_MacReads.j0, if_neg (by decide), if_neg (by omega), if_neg (by omega), if_pos rfl]
      rw [show (1999 : Nat) = 1992 + 7 from rfl, rOf_num 1992 s (by omega)]
      simp
end Go.Proofs.Ytnikfjfcbpeieaa.Pure
