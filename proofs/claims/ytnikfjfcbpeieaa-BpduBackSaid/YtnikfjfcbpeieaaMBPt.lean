/- Proved: BpduBack as a plain statement: for every config and every string, true. -/
import Derived.Test.YtnikfjfcbpeieaaMBTw
import Derived.Test.YtnikfjfcbpeieaaMBP9
section
namespace Go.Proofs.Ytnikfjfcbpeieaa.Pure
open Go.RowKit Go.Proofs.Ytnikfjfcbpeieaa.PBq Go.Proofs.Ytnikfjfcbpeieaa.PBp Go.Proofs.Ytnikfjfcbpeieaa.EBp Go.Proofs.Ytnikfjfcbpeieaa.EFrame Go.Proofs.Ytnikfjfcbpeieaa.QF Go.Proofs.YtnikfjfcbpeieaaW.PrintWords Go.Proofs.YtnikfjfcbpeieaaW.PrintLast Go.Proofs.YtnikfjfcbpeieaaW.PrintMore Go.Proofs.Ytnikfjfcbpeieaa.PBa Go.Proofs.Ytnikfjfcbpeieaa.QB Go.Proofs.Ytnikfjfcbpeieaa.PFr Go.Proofs.Ytnikfjfcbpeieaa.EMac Go.Proofs.Ytnikfjfcbpeieaa.QW
set_option linter.unusedVariables false
set_option linter.unusedSimpArgs false

theorem back_j1 (k : Nat) (s : ByteArray) : footwaylaw03_BpduBack.j1 (k + 6) s = some true := by
  rw [footwaylaw03_BpduBack.j1]
  rcases Unwrap_is s with ⟨r, c, b, p, a, hu, hr, hs⟩ | ⟨e, he, hu⟩
  · rw [hu]
    simp only [Option.bind_some, if_true]
    rw [Wrap_yes k hr, right_eq, decide_eq_true hr, hs]
    simp
  · rw [hu]
    simp [he]
theorem BpduBack (r c b p a : Int) (raw : ByteArray) : footwaylaw03_BpduBack.f 2000 r c b p a raw = some true := by
  unfold footwaylaw03_BpduBack.f
  have e : mn (raw.size : Int) 130 = ((min raw.size 130 : Nat) : Int) := by unfold mn; split <;> omega
  rw [e, if_pos (by omega), if_pos (by omega)]
  generalize raw.extract 0 (((min raw.size 130 : Nat) : Int)).toNat = s
  rw [Print_eq, right_eq]
  by_cases h : Rt r c b p a
  · rw [if_pos h, show (2000 : Nat) = 1995 + 5 from rfl, Wrap_yes 1995 h, decide_eq_true h]
    simp only [Option.bind_some]
    rw [if_neg (by decide), if_pos trivial, alive_eq]
    simp only [Option.bind_some]
    rw [show (1995 + 5 : Nat) = 1999 + 1 from rfl, footwaylaw03_BpduBack.j0]
    rw [if_neg (by decide), if_pos rfl, Parse_Print h, Unwrap_Wrap h]
    simp only [Option.bind_some, if_true]
    rw [if_neg (by simp), if_neg (by simp)]
    exact back_j1 1993 s
  · rw [if_neg h, Wrap_no 2000 h, decide_eq_false h]
    simp only [Option.bind_some]
    rw [if_neg (by decide), if_pos trivial, alive_eq]
    simp only [Option.bind_some]
    rw [show (2000 : Nat) = 1999 + 1 from rfl, footwaylaw03_BpduBack.j0]
    rw [if_neg (by decide), if_neg (by decide)]
    exact back_j1 1993 s
end Go.Proofs.Ytnikfjfcbpeieaa.Pure
end
