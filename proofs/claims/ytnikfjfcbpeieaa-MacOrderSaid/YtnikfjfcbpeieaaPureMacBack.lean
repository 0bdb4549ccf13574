/- Proved: MacBack as a plain statement. -/
import Derived.Test.YtnikfjfcbpeieaaPMax3
import Derived.Test.YtnikfjfcbpeieaaQo
namespace Go.Proofs.Ytnikfjfcbpeieaa.Pure
open Go.RowKit Go.Proofs.Ytnikfjfcbpeieaa.PBa Go.Proofs.Ytnikfjfcbpeieaa.PBb Go.Proofs.Ytnikfjfcbpeieaa.EFrame Go.Proofs.Ytnikfjfcbpeieaa.EMac Go.Proofs.Ytnikfjfcbpeieaa.EPr Go.Proofs.Ytnikfjfcbpeieaa.EOn Go.Proofs.Ytnikfjfcbpeieaa.QF Go.Proofs.Ytnikfjfcbpeieaa.QM Go.Proofs.Ytnikfjfcbpeieaa.PMa Go.Proofs.YtnikfjfcbpeieaaW.PrintWords Go.Proofs.YtnikfjfcbpeieaaW.PrintLast
set_option linter.unusedVariables false
set_option linter.unusedSimpArgs false

theorem mod48 (a : Int) : 0 ≤ wrap64 (Int.tmod (IntKind.u64.wrap a) 281474976710656) ∧ wrap64 (Int.tmod (IntKind.u64.wrap a) 281474976710656) ≤ 281474976710655 := by
  have h : 0 ≤ IntKind.u64.wrap a := by
    simp [IntKind.wrap, IntKind.min, IntKind.max, IntKind.signed, IntKind.bits]
    omega
  rw [Int.tmod_eq_emod_of_nonneg h]
  unfold wrap64
  omega

theorem Bytes_in {a : Int} (h : 0 ≤ a ∧ a ≤ 281474976710655) : mac_Bytes.f a = some (strOfNums (b6 a), 0) := by unfold mac_Bytes.f; rw [if_pos h]
theorem Print_in {a : Int} (h : 0 ≤ a ∧ a ≤ 281474976710655) : mac_Print.f a = some (strOfNums (txt (strOfNums (b6 a)) 6), 0) := by
  have hz : (strOfNums (b6 a)).size = 6 := by rw [str_size]; rfl
  unfold mac_Print.f
  rw [Bytes_in h]
  simp only [Option.map_some, hz]

theorem txt_b6 {a : Int} (h : 0 ≤ a ∧ a ≤ 281474976710655) : txt (strOfNums (b6 a)) 6 = [dig (a / 1099511627776 / 16), dig (a / 1099511627776 % 16), 58, dig (a / 4294967296 % 256 / 16), dig (a / 4294967296 % 256 % 16), 58, dig (a / 16777216 % 256 / 16), dig (a / 16777216 % 256 % 16), 58, dig (a / 65536 % 256 / 16), dig (a / 65536 % 256 % 16), 58, dig (a / 256 % 256 / 16), dig (a / 256 % 256 % 16), 58, dig (a % 256 / 16), dig (a % 256 % 16)] :=
  txt_list _ _ _ _ _ _ _ (by rw [bytes_of_str _ (b6_ok h.1 h.2)]; rfl)

theorem Parse_Print {a : Int} (h : 0 ≤ a ∧ a ≤ 281474976710655) : mac_Parse.f (strOfNums (txt (strOfNums (b6 a)) 6)) = some (a, 0) := by
  have ht := txt_b6 h
  have hz : (strOfNums (txt (strOfNums (b6 a)) 6)).size = 17 := by rw [str_size, ht]; rfl
  have hb : bytesOf (strOfNums (txt (strOfNums (b6 a)) 6)) = txt (strOfNums (b6 a)) 6 := bytes_of_str _ (txt_ok _ 6)
  have hp := pst_txt (strOfNums (txt (strOfNums (b6 a)) 6)) (a / 1099511627776) (a / 4294967296 % 256) (a / 16777216 % 256) (a / 65536 % 256) (a / 256 % 256) (a % 256) (by omega) (by omega) (by omega) (by omega) (by omega) (by omega) (hb.trans ht)
  rw [b6_sum h.1 h.2] at hp
  unfold mac_Parse.f
  rw [if_neg (by omega), if_neg (by omega), hp]

theorem j1_true (k : Nat) (t : ByteArray) : footwaylaw01_MacBack.j1 (k + 1) t false = some true := by
  rw [footwaylaw01_MacBack.j1, if_neg (by decide)]
  unfold mac_Parse.f
  by_cases h0 : t.size < 17
  · rw [if_pos h0]; rfl
  · rw [if_neg h0]
    by_cases h1 : 17 < t.size
    · rw [if_pos h1]; rfl
    · rw [if_neg h1]
      cases hp : pst t 17 with
      | none => rfl
      | some d =>
        obtain ⟨d0, d1⟩ := pst_small t 17 (Nat.le_refl _) d hp
        have hb := pst_back t (by omega) d hp
        simp only [Option.bind_some, if_true]
        rw [Print_in ⟨d0, by omega⟩, hb]
        simp

theorem MacBackK (a0 : Int) (t0 : ByteArray) : footwaylaw01_MacBack.f 2000 a0 t0 = some true := by
  unfold footwaylaw01_MacBack.f
  have e1 : mn (t0.size : Int) 30 = ((min t0.size 30 : Nat) : Int) := by unfold mn; split <;> omega
  rw [e1, if_pos (by omega), if_pos (by omega)]
  generalize t0.extract 0 (((min t0.size 30 : Nat) : Int)).toNat = t
  have ha := mod48 a0
  generalize wrap64 (Int.tmod (IntKind.u64.wrap a0) 281474976710656) = a at ha
  have hz : (strOfNums (b6 a)).size = 6 := by rw [str_size]; rfl
  have hb0 : bt (strOfNums (b6 a)) 0 = a / 1099511627776 := bt_list (strOfNums (b6 a)) _ (bytes_of_str _ (b6_ok ha.1 ha.2)) 0
  have hn : num6 (strOfNums (b6 a)) 0 = a := by
    have := num6_cons (strOfNums (b6 a)) _ _ _ _ _ _ [] [] (by rw [bytes_of_str _ (b6_ok ha.1 ha.2)]; rfl)
    simp only [List.length_nil, Int.natCast_zero] at this
    rw [this]; exact b6_sum ha.1 ha.2
  have hO : mac_Of.f 2000 (strOfNums (b6 a)) = some (a, 0) := by
    have := Of_num 1993 (strOfNums (b6 a)) hz
    rw [hn] at this
    exact this
  have hT : (strOfNums (txt (strOfNums (b6 a)) 6)).size = 17 := by rw [str_size, txt_b6 ha]; rfl
  rw [Bytes_in ha, Print_in ha]
  simp only [Option.bind_some]
  rw [hO, Parse_Print ha, Class_yes ha.1 ha.2, QM.alive_eq]
  simp only [Option.bind_some, if_true]
  rw [if_pos (by omega), if_pos (by omega), show (2000 : Nat) = 1999 + 1 from rfl, footwaylaw01_MacBack.j0, if_neg (by decide), if_pos (by omega), hb0, Int.tmod_eq_emod_of_nonneg (by omega)]
  have c1 : ((cls a == 0) != (a / 1099511627776 % 2 == 0)) = false := by
    unfold cls
    by_cases h : a / 16 = 103282638848
    · rw [if_pos h, show a / 1099511627776 % 2 = 1 from by omega]; rfl
    · rw [if_neg h]; simp
  rw [if_neg (by rw [c1]; decide)]
  by_cases hr : a ≥ 1652522221568
  · rw [if_pos hr]
    have c2 : ((cls a == 2) != decide (a < 1652522221584)) = false := by
      unfold cls
      by_cases h : a / 16 = 103282638848
      · rw [if_pos h, decide_eq_true (by omega)]; rfl
      · rw [if_neg h, decide_eq_false (by omega), beq_eq_false_iff_ne.2 (by omega)]; rfl
    rw [c2]
    exact j1_true 1998 t
  · rw [if_neg hr]
    have c2 : ((cls a == 2) != false) = false := by
      unfold cls
      rw [if_neg (by omega), beq_eq_false_iff_ne.2 (by omega)]; rfl
    rw [c2]
    exact j1_true 1998 t
end Go.Proofs.Ytnikfjfcbpeieaa.Pure
