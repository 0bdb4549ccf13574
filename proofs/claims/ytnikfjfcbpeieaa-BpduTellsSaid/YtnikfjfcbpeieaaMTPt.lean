/- Proved: BpduTells as a plain statement: for every config and every two strings, true. -/
import Derived.Test.YtnikfjfcbpeieaaMTTw
import Derived.Test.YtnikfjfcbpeieaaMTP8
section
namespace Go.Proofs.Ytnikfjfcbpeieaa.Pure
open Go.RowKit Go.Proofs.Ytnikfjfcbpeieaa.PBq Go.Proofs.Ytnikfjfcbpeieaa.PBp Go.Proofs.Ytnikfjfcbpeieaa.EBp Go.Proofs.Ytnikfjfcbpeieaa.EFrame Go.Proofs.Ytnikfjfcbpeieaa.QF Go.Proofs.YtnikfjfcbpeieaaW.PrintWords Go.Proofs.YtnikfjfcbpeieaaW.PrintLast Go.Proofs.YtnikfjfcbpeieaaW.PrintMore Go.Proofs.Ytnikfjfcbpeieaa.PBa Go.Proofs.Ytnikfjfcbpeieaa.QB Go.Proofs.Ytnikfjfcbpeieaa.PFr Go.Proofs.Ytnikfjfcbpeieaa.EMac Go.Proofs.Ytnikfjfcbpeieaa.QW Go.Proofs.Ytnikfjfcbpeieaa.QR
set_option linter.unusedVariables false
set_option linter.unusedSimpArgs false
theorem same5 (x y z u v : Int) : ((!(x == x) || (!(y == y) || (!(z == z) || (!(u == u))))) || (!(v == v))) = false := by simp
theorem BpduTells (r c b p a : Int) (data raw : ByteArray) : footwaylaw03_BpduTells.f 2000 r c b p a data raw = some true := by
 unfold footwaylaw03_BpduTells.f
 have e1 : mn (data.size : Int) 20 = ((min data.size 20 : Nat) : Int) := by unfold mn; split <;> omega
 have e2 : mn (raw.size : Int) 130 = ((min raw.size 130 : Nat) : Int) := by unfold mn; split <;> omega
 rw [e1, if_pos (by omega), if_pos (by omega), e2, if_pos (by omega), if_pos (by omega)]
 have hs : (data.extract 0 (((min data.size 20 : Nat) : Int)).toNat).size ≤ 1000 := by rw [ByteArray.size_extract, Int.toNat_natCast]; omega
 generalize raw.extract 0 (((min raw.size 130 : Nat) : Int)).toNat = s
 generalize data.extract 0 (((min data.size 20 : Nat) : Int)).toNat = t at hs ⊢
 have hP : ∃ P : Int × Int × Int × Int × Int × Int, bpdu_Parse.f t = some P := by
  rcases Parse_is t hs with ⟨r, c, b, p, a, h, _⟩ | ⟨e, _, h⟩ <;> exact ⟨_, h⟩
 have hU : ∃ U : Int × Int × Int × Int × Int × Int, bpdu_Unwrap.f s = some U := by
  rcases Unwrap_is s with ⟨r, c, b, p, a, h, _⟩ | ⟨e, _, h⟩ <;> exact ⟨_, h⟩
 obtain ⟨P, hP⟩ := hP
 obtain ⟨U, hU⟩ := hU
 rw [show (2000 : Nat) = 1980 + 20 from rfl, ref_Parse 1980 t hs, show (1980 + 20 : Nat) = 1979 + 21 from rfl, ref_Unwrap 1979 s, hP, hU, Print_eq, right_eq, ref_right]
 by_cases h : Rt r c b p a
 ·rw [if_pos h, show (1979 + 21 : Nat) = 1995 + 5 from rfl, Wrap_yes 1995 h, decide_eq_true h]
  simp only [Option.bind_some]
  rw [if_neg (by decide), same5, same5, if_neg (by decide), if_pos trivial, if_neg (by decide), if_pos trivial, alive_eq]
  simp only [Option.bind_some]
  rw [show (1995 + 5 : Nat) = 1999 + 1 from rfl, footwaylaw03_BpduTells.j0]
  rw [if_neg (by decide), ref_right, decide_eq_true h]
  simp only [Option.bind_some, if_true]
  rw [show (1999 : Nat) = 1979 + 20 from rfl, ref_Print 1979 h, ref_Wrap 1979 h]
  simp
 ·rw [if_neg h, Wrap_no _ h, decide_eq_false h]
  simp only [Option.bind_some]
  rw [if_neg (by decide), same5, same5, if_neg (by decide), if_pos trivial, if_neg (by decide), if_pos trivial, alive_eq]
  simp only [Option.bind_some]
  rw [show (1979 + 21 : Nat) = 1999 + 1 from rfl, footwaylaw03_BpduTells.j0]
  rw [if_neg (by decide), ref_right, decide_eq_false h]
  simp only [Option.bind_some]
  rw [if_neg (by decide), if_pos trivial, if_pos trivial]
  simp only [tl]
  decide
end Go.Proofs.Ytnikfjfcbpeieaa.Pure
end
