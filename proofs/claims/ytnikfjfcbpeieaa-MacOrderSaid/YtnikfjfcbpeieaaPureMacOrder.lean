/- Proved: MacOrder as a plain statement. -/
import Derived.Test.YtnikfjfcbpeieaaPMax2
import Derived.Test.YtnikfjfcbpeieaaPureMacBack
namespace Go.Proofs.Ytnikfjfcbpeieaa.Pure
open Go.RowKit Go.Proofs.Ytnikfjfcbpeieaa.PBa Go.Proofs.Ytnikfjfcbpeieaa.PBb Go.Proofs.Ytnikfjfcbpeieaa.EFrame Go.Proofs.Ytnikfjfcbpeieaa.EMac Go.Proofs.Ytnikfjfcbpeieaa.EPr Go.Proofs.Ytnikfjfcbpeieaa.EOn Go.Proofs.Ytnikfjfcbpeieaa.QF Go.Proofs.Ytnikfjfcbpeieaa.QM Go.Proofs.Ytnikfjfcbpeieaa.PMa Go.Proofs.YtnikfjfcbpeieaaW.PrintWords Go.Proofs.YtnikfjfcbpeieaaW.PrintLast
set_option linter.unusedVariables false
set_option linter.unusedSimpArgs false

/-- The order of rows of numbers. -/
def lexI : List Int → List Int → Bool
  | _, [] => false
  | [], _ :: _ => true
  | a :: x, b :: y => decide (a < b) || (a == b && lexI x y)

theorem less_lex (x y : List UInt8) : Op.bytesLess x y = lexI (x.map fun b => (b.toNat : Int)) (y.map fun b => (b.toNat : Int)) := by
  induction x generalizing y with
  | nil => cases y <;> rfl
  | cons a x ih =>
    cases y with
    | nil => rfl
    | cons b y =>
      simp only [Op.bytesLess, List.map_cons, lexI, ih]
      congr 1
      · rw [decide_eq_decide, UInt8.lt_iff_toNat_lt]; omega
      · congr 1
        by_cases h : a = b
        · subst h; simp
        · have h2 : a.toNat ≠ b.toNat := fun e => h (UInt8.toNat_inj.1 e)
          rw [beq_eq_false_iff_ne.2 h, beq_eq_false_iff_ne.2 (by omega)]

theorem tl (s : ByteArray) : s.toList = s.data.toList := by
  obtain ⟨⟨l⟩⟩ := s
  rw [show (ByteArray.mk { toList := l }) = ByteArray.mk l.toArray from rfl, ByteArray.toList_mk]

theorem less_str (l m : List Int) (hl : ∀ x ∈ l, 0 ≤ x ∧ x ≤ 255) (hm : ∀ x ∈ m, 0 ≤ x ∧ x ≤ 255) : Op.bytesLess (strOfNums l).toList (strOfNums m).toList = lexI l m := by
  rw [less_lex]
  have e1 := bytes_of_str l hl
  have e2 := bytes_of_str m hm
  unfold bytesOf at e1 e2
  rw [tl, tl, e1, e2]

theorem lstep (x y : Int) (R T : Bool) (h1 : x < y → T = true) (h2 : y < x → T = false) (h3 : x = y → R = T) : (decide (x < y) || (x == y && R)) = T := by
  rcases Int.lt_trichotomy x y with h | h | h
  · rw [h1 h, decide_eq_true h]; rfl
  · rw [h3 h, decide_eq_false (by omega), beq_iff_eq.2 h]; simp
  · rw [h2 h, decide_eq_false (by omega), beq_eq_false_iff_ne.2 (by omega)]; rfl

theorem lex6 (x0 x1 x2 x3 x4 x5 y0 y1 y2 y3 y4 y5 : Int) (a0 : 0 ≤ x0 ∧ x0 ≤ 255) (a1 : 0 ≤ x1 ∧ x1 ≤ 255) (a2 : 0 ≤ x2 ∧ x2 ≤ 255) (a3 : 0 ≤ x3 ∧ x3 ≤ 255) (a4 : 0 ≤ x4 ∧ x4 ≤ 255) (a5 : 0 ≤ x5 ∧ x5 ≤ 255) (b0 : 0 ≤ y0 ∧ y0 ≤ 255) (b1 : 0 ≤ y1 ∧ y1 ≤ 255) (b2 : 0 ≤ y2 ∧ y2 ≤ 255) (b3 : 0 ≤ y3 ∧ y3 ≤ 255) (b4 : 0 ≤ y4 ∧ y4 ≤ 255) (b5 : 0 ≤ y5 ∧ y5 ≤ 255) :
    lexI [x0, x1, x2, x3, x4, x5] [y0, y1, y2, y3, y4, y5] = decide (x0 * 1099511627776 + x1 * 4294967296 + x2 * 16777216 + x3 * 65536 + x4 * 256 + x5 < y0 * 1099511627776 + y1 * 4294967296 + y2 * 16777216 + y3 * 65536 + y4 * 256 + y5) := by
  simp only [lexI]
  refine lstep _ _ _ _ (fun h0 => decide_eq_true (by omega)) (fun h0 => decide_eq_false (by omega)) (fun h0 => ?_)
  refine lstep _ _ _ _ (fun h1 => decide_eq_true (by omega)) (fun h1 => decide_eq_false (by omega)) (fun h1 => ?_)
  refine lstep _ _ _ _ (fun h2 => decide_eq_true (by omega)) (fun h2 => decide_eq_false (by omega)) (fun h2 => ?_)
  refine lstep _ _ _ _ (fun h3 => decide_eq_true (by omega)) (fun h3 => decide_eq_false (by omega)) (fun h3 => ?_)
  refine lstep _ _ _ _ (fun h4 => decide_eq_true (by omega)) (fun h4 => decide_eq_false (by omega)) (fun h4 => ?_)
  refine lstep _ _ _ _ (fun h5 => decide_eq_true (by omega)) (fun h5 => decide_eq_false (by omega)) (fun h5 => ?_)
  exact (decide_eq_false (by omega)).symm

theorem two (x y : Int) (h0 : 0 ≤ x ∧ x ≤ 255) (h1 : 0 ≤ y ∧ y ≤ 255) (l m : List Int) : lexI (dig (x / 16) :: dig (x % 16) :: l) (dig (y / 16) :: dig (y % 16) :: m) = (decide (x < y) || (x == y && lexI l m)) := by
  have e1 := dig_eq (x / 16) (by omega) (by omega)
  have e2 := dig_eq (x % 16) (by omega) (by omega)
  have e3 := dig_eq (y / 16) (by omega) (by omega)
  have e4 := dig_eq (y % 16) (by omega) (by omega)
  simp only [lexI]
  generalize dig (x / 16) = p at e1
  generalize dig (x % 16) = q at e2
  generalize dig (y / 16) = r at e3
  generalize dig (y % 16) = s at e4
  have hp : (p < r ↔ x / 16 < y / 16) ∧ (p = r ↔ x / 16 = y / 16) := by constructor <;> (split at e1 <;> split at e3 <;> omega)
  have hq : (q < s ↔ x % 16 < y % 16) ∧ (q = s ↔ x % 16 = y % 16) := by constructor <;> (split at e2 <;> split at e4 <;> omega)
  clear e1 e2 e3 e4
  refine lstep _ _ _ _ (fun h => ?_) (fun h => ?_) (fun h => ?_)
  · have := hp.1.1 h
    rw [decide_eq_true (show x < y by omega)]; rfl
  · have h4 : ¬ x / 16 < y / 16 := fun e => by have := hp.1.2 e; omega
    have h5 : ¬ x / 16 = y / 16 := fun e => by have := hp.2.2 e; omega
    rw [decide_eq_false (show ¬ x < y by omega), beq_eq_false_iff_ne.2 (show x ≠ y by omega)]; rfl
  · have hh := hp.2.1 h
    refine lstep _ _ _ _ (fun g => ?_) (fun g => ?_) (fun g => ?_)
    · have := hq.1.1 g
      rw [decide_eq_true (show x < y by omega)]; rfl
    · have h4 : ¬ x % 16 < y % 16 := fun e => by have := hq.1.2 e; omega
      have h5 : ¬ x % 16 = y % 16 := fun e => by have := hq.2.2 e; omega
      rw [decide_eq_false (show ¬ x < y by omega), beq_eq_false_iff_ne.2 (show x ≠ y by omega)]; rfl
    · have := hq.2.1 g
      rw [decide_eq_false (show ¬ x < y by omega), beq_iff_eq.2 (show x = y by omega)]
      simp

theorem col (l m : List Int) : lexI (58 :: l) (58 :: m) = lexI l m := by simp [lexI]

theorem xor1 (a : Int) (h0 : 0 ≤ a) (h1 : a ≤ 281474976710655) : Go.bits .xor .i64 a 1 = if a % 2 = 0 then a + 1 else a - 1 := by
  obtain ⟨n, rfl⟩ := Int.eq_ofNat_of_zero_le h0
  show IntKind.i64.wrap ((BitVec.ofInt 64 (n : Int) ^^^ BitVec.ofInt 64 1).toNat : Int) = _
  have h2 : (BitVec.ofInt 64 1).toNat = 1 := by decide
  have h3 : (BitVec.ofInt 64 (n : Int)).toNat = n := by
    rw [BitVec.ofInt_natCast, BitVec.toNat_ofNat]; exact Nat.mod_eq_of_lt (by omega)
  have q1 : (n ^^^ 1) / 2 = n / 2 := by
    have := Nat.xor_div_two_pow (a := n) (b := 1) (n := 1)
    simpa using this
  have q2 : (n ^^^ 1) % 2 = (n % 2) ^^^ 1 := by
    have := Nat.xor_mod_two_pow (a := n) (b := 1) (n := 1)
    simpa using this
  rw [BitVec.toNat_xor, h3, h2, IntKind.wrap_i64]
  have hm : n % 2 = 0 ∨ n % 2 = 1 := by omega
  rcases hm with hm | hm
  · rw [hm] at q2
    have q3 : (n ^^^ 1) % 2 = 1 := q2
    rw [if_pos (by omega)]
    omega
  · rw [hm] at q2
    have q3 : (n ^^^ 1) % 2 = 0 := q2
    rw [if_neg (by omega)]
    omega

theorem MacOrderK (a0 b0 : Int) : footwaylaw01_MacOrder.f a0 b0 = some true := by
  unfold footwaylaw01_MacOrder.f
  have ha := mod48 a0
  have hb := mod48 b0
  generalize wrap64 (Int.tmod (IntKind.u64.wrap a0) 281474976710656) = a at ha
  generalize wrap64 (Int.tmod (IntKind.u64.wrap b0) 281474976710656) = b at hb
  have hx := xor1 a ha.1 ha.2
  have hc : mac_Class.f (Go.bits .xor .i64 a 1) = some (cls a, 0) := by
    rw [hx, Class_yes (by split <;> omega) (by split <;> omega)]
    congr 2
    unfold cls
    split
    · rw [show (a + 1) / 16 = a / 16 from by omega, show (a + 1) / 1099511627776 = a / 1099511627776 from by omega]
    · rw [show (a - 1) / 16 = a / 16 from by omega, show (a - 1) / 1099511627776 = a / 1099511627776 from by omega]
  rw [Bytes_in ha, Bytes_in hb, Print_in ha, Print_in hb, Class_yes ha.1 ha.2, hc, QM.alive_eq]
  simp only [Option.bind_some, if_true]
  have L1 : Op.bytesLess (strOfNums (b6 a)).toList (strOfNums (b6 b)).toList = decide (a < b) := by
    rw [less_str _ _ (b6_ok ha.1 ha.2) (b6_ok hb.1 hb.2)]
    unfold b6
    rw [lex6 _ _ _ _ _ _ _ _ _ _ _ _ (by omega) (by omega) (by omega) (by omega) (by omega) (by omega) (by omega) (by omega) (by omega) (by omega) (by omega) (by omega), b6_sum ha.1 ha.2, b6_sum hb.1 hb.2]
  have L2 : Op.bytesLess (strOfNums (txt (strOfNums (b6 a)) 6)).toList (strOfNums (txt (strOfNums (b6 b)) 6)).toList = decide (a < b) := by
    rw [less_str _ _ (txt_ok _ 6) (txt_ok _ 6), txt_b6 ha, txt_b6 hb]
    rw [two _ _ (by omega) (by omega), col, two _ _ (by omega) (by omega), col, two _ _ (by omega) (by omega), col, two _ _ (by omega) (by omega), col, two _ _ (by omega) (by omega), col, two _ _ (by omega) (by omega)]
    have h := lex6 (a / 1099511627776) (a / 4294967296 % 256) (a / 16777216 % 256) (a / 65536 % 256) (a / 256 % 256) (a % 256) (b / 1099511627776) (b / 4294967296 % 256) (b / 16777216 % 256) (b / 65536 % 256) (b / 256 % 256) (b % 256) (by omega) (by omega) (by omega) (by omega) (by omega) (by omega) (by omega) (by omega) (by omega) (by omega) (by omega) (by omega)
    rw [b6_sum ha.1 ha.2, b6_sum hb.1 hb.2] at h
    rw [← h]
    simp only [lexI]
  have L3 : ((strOfNums (txt (strOfNums (b6 a)) 6)).toList == (strOfNums (txt (strOfNums (b6 b)) 6)).toList) = (a == b) := by
    by_cases h : a = b
    · subst h; simp
    · rw [beq_eq_false_iff_ne.2 h]
      refine beq_eq_false_iff_ne.2 fun e => h ?_
      have e2 : strOfNums (txt (strOfNums (b6 a)) 6) = strOfNums (txt (strOfNums (b6 b)) 6) := by
        apply ByteArray.ext
        apply Array.toList_inj.1
        rw [← tl, ← tl]
        exact e
      have p1 := Parse_Print ha
      have p2 := Parse_Print hb
      rw [e2, p2] at p1
      have := Option.some.inj p1
      simp only [Prod.mk.injEq] at this
      exact this.1.symm
  rw [L1, L2, L3]
  simp
end Go.Proofs.Ytnikfjfcbpeieaa.Pure
