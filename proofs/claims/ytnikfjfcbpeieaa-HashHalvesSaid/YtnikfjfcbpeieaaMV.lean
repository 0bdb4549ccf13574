/- The sum of an address, and its bucket: the program's and the document's are one. -/
/- How many fall into each bucket: the program's counts and the document's; the greatest of them. -/
import Derived.Test.YtnikfjfcbpeieaaMT1
import Derived.Laws.BitsLemmas
import Derived.Lib.LazyBuf
import Derived.Test.YtnikfjfcbpeieaaMT2
section
namespace Go.Proofs.Ytnikfjfcbpeieaa.HP
open Go.RowKit Go.Proofs.Ytnikfjfcbpeieaa.PHp Go.Proofs.Ytnikfjfcbpeieaa.EHa Go.Proofs.Ytnikfjfcbpeieaa.EMac Go.Proofs.YtnikfjfcbpeieaaW.PrintWords Go.Proofs.YtnikfjfcbpeieaaW.PrintLast Go.Proofs.YtnikfjfcbpeieaaW.PrintMore
open Go.Proofs.Ytnikfjfcbpeieaa (Hk.hsx Hk.sumx Hk.bkx Hk.numB Hk.rightB Hk.inc)
set_option linter.unusedVariables false
set_option linter.unusedSimpArgs false
theorem str_of_bytes (s : ByteArray) : strOfNums (bytesOf s) = s := by
 unfold bytesOf
 rw [Lib.Lz.strOfNums_map]
theorem bytes_inj {a b : ByteArray} (h : bytesOf a = bytesOf b) : a = b := by
 rw [← str_of_bytes a, ← str_of_bytes b, h]
theorem bytes_append (a b : ByteArray) : bytesOf (a ++ b) = bytesOf a ++ bytesOf b := by
 simp [bytesOf]
theorem bytes_of_str (l : List Int) (h : ∀ x ∈ l, 0 ≤ x ∧ x ≤ 255) : bytesOf (strOfNums l) = l := by
 have e : (strOfNums l).data.toList = l.map fun n => UInt8.ofNat n.toNat := by
  simp [strOfNums]
 unfold bytesOf
 rw [e, List.map_map]
 conv => rhs; rw [← List.map_id l]
 apply List.map_congr_left
 intro x hx
 have hb := h x hx
 simp only [Function.comp_apply, id_eq, UInt8.toNat_ofNat']
 omega
theorem str_size (l : List Int) : (strOfNums l).size = l.length := by
 simp [strOfNums, ByteArray.size]
theorem rB_step (k : Nat) (a : Int) (x : ByteArray) (i j : Int) (hj : j = i + 1) (h0 : 0 ≤ a) (h1 : a ≤ 281474976710655) (h2 : 0 ≤ i) (h3 : i < 6) (hx : x.size ≤ 100) : footwayref01_Bytes.l0 (k + 1) a x i = footwayref01_Bytes.l0 k (a / 256) (strOfNums [a % 256] ++ x) j := by
 subst hj
 rw [footwayref01_Bytes.l0, if_pos h3]
 simp only [Option.bind_some]
 rw [Int.tmod_eq_emod_of_nonneg h0, Int.tdiv_eq_ediv_of_nonneg h0]
 rw [show a % 256 % 256 = a % 256 from by omega, show wrap64 (a / 256) = a / 256 from by unfold wrap64; omega, show wrap64 (i + 1) = i + 1 from by unfold wrap64; omega]
 rw [if_pos (by rw [str_size]; simp; omega)]
theorem str_cons (a b : List Int) (ha : ∀ x ∈ a, 0 ≤ x ∧ x ≤ 255) (hb : ∀ x ∈ b, 0 ≤ x ∧ x ≤ 255) : strOfNums a ++ strOfNums b = strOfNums (a ++ b) := by
 apply bytes_inj
 rw [bytes_append, bytes_of_str a ha, bytes_of_str b hb, bytes_of_str]
 intro x hx
 rcases List.mem_append.1 hx with h | h
 ·exact ha x h
 ·exact hb x h
theorem rBytes_eq (k : Nat) {a : Int} (h0 : 0 ≤ a) (h1 : a ≤ 281474976710655) : footwayref01_Bytes.f (k + 7) a = some (strOfNums (b6 a)) := by
 have ok : ∀ y : Int, ∀ x ∈ [y % 256], 0 ≤ x ∧ x ≤ 255 := by
  intro y x hx
  simp at hx
  omega
 have ok2 : ∀ (y : Int) (l : List Int), (∀ x ∈ l, 0 ≤ x ∧ x ≤ 255) → ∀ x ∈ ([y % 256] ++ l), 0 ≤ x ∧ x ≤ 255 := by
  intro y l hl x hx
  rcases List.mem_append.1 hx with h | h
  ·exact ok y x h
  ·exact hl x h
 unfold footwayref01_Bytes.f
 have z : (⟨#[]⟩ : ByteArray) = strOfNums [] := rfl
 have n0 : ∀ x ∈ ([] : List Int), 0 ≤ x ∧ x ≤ 255 := by simp
 rw [z, rB_step (k + 6) a _ 0 1 rfl (by omega) (by omega) (by omega) (by omega) (by decide), str_cons _ _ (ok _) n0]
 have n1 := ok2 a _ n0
 rw [rB_step (k + 5) _ _ 1 2 rfl (by omega) (by omega) (by omega) (by omega) (by rw [str_size]; simp), str_cons _ _ (ok _) n1]
 have n2 := ok2 (a / 256) _ n1
 rw [rB_step (k + 4) _ _ 2 3 rfl (by omega) (by omega) (by omega) (by omega) (by rw [str_size]; simp), str_cons _ _ (ok _) n2]
 have n3 := ok2 (a / 256 / 256) _ n2
 rw [rB_step (k + 3) _ _ 3 4 rfl (by omega) (by omega) (by omega) (by omega) (by rw [str_size]; simp), str_cons _ _ (ok _) n3]
 have n4 := ok2 (a / 256 / 256 / 256) _ n3
 rw [rB_step (k + 2) _ _ 4 5 rfl (by omega) (by omega) (by omega) (by omega) (by rw [str_size]; simp), str_cons _ _ (ok _) n4]
 have n5 := ok2 (a / 256 / 256 / 256 / 256) _ n4
 rw [rB_step (k + 1) _ _ 5 6 rfl (by omega) (by omega) (by omega) (by omega) (by rw [str_size]; simp), str_cons _ _ (ok _) n5]
 rw [footwayref01_Bytes.l0, if_neg (by decide)]
 congr 2
 unfold b6
 simp only [List.cons_append, List.nil_append, List.cons.injEq, and_true]
 refine ⟨by omega, by omega, by omega, by omega⟩
theorem b6_range {a : Int} (h0 : 0 ≤ a) (h1 : a ≤ 281474976710655) : ∀ x ∈ b6 a, 0 ≤ x ∧ x ≤ 255 := by
 intro x hx
 unfold b6 at hx
 simp only [List.mem_cons, List.not_mem_nil, or_false] at hx
 rcases hx with rfl | rfl | rfl | rfl | rfl | rfl <;> omega
theorem bt_b6 {a : Int} (h0 : 0 ≤ a) (h1 : a ≤ 281474976710655) (i : Nat) : bt (strOfNums (b6 a)) (i : Int) = (b6 a).getD i 0 := by
 rw [← rd_bytesOf, bytes_of_str _ (b6_range h0 h1)]
 rfl
theorem hbt {a : Int} (h0 : 0 ≤ a) (h1 : a ≤ 281474976710655) {i : Nat} (hi : i < 6) : Hk.bt a i = (b6 a).getD i 0 := by
 unfold Hk.bt
 rw [IntKind.wrap_u8, Int.fdiv_eq_ediv_of_nonneg _ (by exact Int.le_of_lt (Int.pow_pos (by decide)))]
 have : i = 0 ∨ i = 1 ∨ i = 2 ∨ i = 3 ∨ i = 4 ∨ i = 5 := by omega
 rcases this with rfl | rfl | rfl | rfl | rfl | rfl <;> simp [b6] <;> omega
theorem b6_lt {a : Int} (h0 : 0 ≤ a) (h1 : a ≤ 281474976710655) {i : Nat} (hi : i < 6) : 0 ≤ (b6 a).getD i 0 ∧ (b6 a).getD i 0 < 256 := by
 have : i = 0 ∨ i = 1 ∨ i = 2 ∨ i = 3 ∨ i = 4 ∨ i = 5 := by omega
 rcases this with rfl | rfl | rfl | rfl | rfl | rfl <;> simp [b6] <;> omega
theorem hsx_range (a : Int) (k : Nat) : 0 ≤ Hk.hsx a k ∧ Hk.hsx a k < 4294967296 := by
 cases k with
 | zero => unfold Hk.hsx; omega
 | succ k => unfold Hk.hsx; rw [IntKind.wrap_u32]; omega
theorem hsx_succ {a : Int} (h0 : 0 ≤ a) (h1 : a ≤ 281474976710655) {i : Nat} (hi : i < 6) : Hk.hsx a (i + 1) = (Go.bits .xor .u32 (Hk.hsx a i) ((b6 a).getD i 0)) * 16777619 % 4294967296 := by
 have hb := b6_lt h0 h1 hi
 rw [Hk.hsx, IntKind.wrap_u32, IntKind.wrap_u32, hbt h0 h1 hi, show (b6 a).getD i 0 % 4294967296 = (b6 a).getD i 0 by omega]
theorem sumx_eq (a : Int) : Hk.sumx a = Hk.hsx a 6 := by
 have := hsx_range a 6
 unfold Hk.sumx
 rw [IntKind.wrap_i64]
 omega
theorem sumx_range (a : Int) : 0 ≤ Hk.sumx a ∧ Hk.sumx a < 4294967296 := by rw [sumx_eq]; exact hsx_range a 6
theorem hS_step (k : Nat) {a : Int} (h0 : 0 ≤ a) (h1 : a ≤ 281474976710655) {i : Nat} (hi : i < 6) : hash_Sum.l0 (k + 1) (strOfNums (b6 a)) (Hk.hsx a i) 6 (i : Int) = hash_Sum.l0 k (strOfNums (b6 a)) (Hk.hsx a (i + 1)) 6 ((i + 1 : Nat) : Int) := by
 have hb := b6_lt h0 h1 hi
 have hz : (strOfNums (b6 a)).size = 6 := by rw [str_size]; rfl
 rw [hash_Sum.l0, if_pos (by omega), if_pos (by omega), if_pos (by rw [hz]; omega), bt_b6 h0 h1, show (b6 a).getD i 0 % 4294967296 = (b6 a).getD i 0 by omega, ← hsx_succ h0 h1 hi, show wrap64 ((i : Int) + 1) = ((i + 1 : Nat) : Int) by unfold wrap64; omega]
theorem hSum {a : Int} (h0 : 0 ≤ a) (h1 : a ≤ 281474976710655) (k : Nat) : hash_Sum.f (k + 7) a = some (Hk.sumx a, 0) := by
 unfold hash_Sum.f mac_Bytes.f
 rw [if_pos ⟨h0, h1⟩]
 simp only [Option.bind_some, if_true]
 have hz : (strOfNums (b6 a)).size = 6 := by rw [str_size]; rfl
 rw [hz]
 have e0 : (2166136261 : Int) = Hk.hsx a 0 := rfl
 rw [e0, show ((6 : Nat) : Int) = 6 from rfl, show (0 : Int) = ((0 : Nat) : Int) from rfl, hS_step (k + 6) h0 h1 (by omega), hS_step (k + 5) h0 h1 (by omega), hS_step (k + 4) h0 h1 (by omega), hS_step (k + 3) h0 h1 (by omega), hS_step (k + 2) h0 h1 (by omega), hS_step (k + 1) h0 h1 (by omega), hash_Sum.l0, if_neg (by decide), sumx_eq]
 have := hsx_range a 6
 rw [show wrap64 (Hk.hsx a (0 + 1 + 1 + 1 + 1 + 1 + 1)) = Hk.hsx a 6 by show wrap64 (Hk.hsx a 6) = _; unfold wrap64; omega]
 rfl
theorem hSum_no {a : Int} (h : ¬ (0 ≤ a ∧ a ≤ 281474976710655)) (k : Nat) : hash_Sum.f k a = some (0, 1) := by
 unfold hash_Sum.f mac_Bytes.f
 rw [if_neg h]
 simp
theorem bits_xor32 (a b : Nat) (ha : a < 4294967296) (hb : b < 4294967296) : Go.bits .xor .u32 a b = ((a ^^^ b : Nat) : Int) := by
 have hx : a ^^^ b < 2 ^ 32 := Nat.xor_lt_two_pow (by omega) (by omega)
 have ha' : a % 2 ^ IntKind.u32.bits = a := Nat.mod_eq_of_lt (by simpa [IntKind.bits] using ha)
 have hb' : b % 2 ^ IntKind.u32.bits = b := Nat.mod_eq_of_lt (by simpa [IntKind.bits] using hb)
 simp only [Go.bits, BitVec.ofInt_natCast, BitVec.toNat_xor, BitVec.toNat_ofNat, ha', hb']
 rw [IntKind.wrap_u32]
 omega
theorem i64w (n : Int) : wrap64 n = IntKind.i64.wrap n := by rw [IntKind.wrap_i64]; unfold wrap64; rfl
theorem xor_step (a b : Nat) : a ^^^ b = 2 * (a / 2 ^^^ b / 2) + (if a % 2 = b % 2 then 0 else 1) := by
 have h1 : (a ^^^ b) / 2 = a / 2 ^^^ b / 2 := Nat.xor_div_two
 have h2 := Nat.xor_mod_two_eq_one (a := a) (b := b)
 generalize a / 2 ^^^ b / 2 = x at *
 generalize a ^^^ b = y at *
 split
 ·have : ¬ y % 2 = 1 := fun h => (h2.1 h) (by omega)
  omega
 ·have : y % 2 = 1 := h2.2 (by omega)
  omega
theorem half_lt {a p : Nat} (h : a < 2 * p) : a / 2 < p := by omega
theorem tdiv2 {a : Nat} (h : a < 4294967296) : wrap64 (Int.tdiv (a : Int) 2) = ((a / 2 : Nat) : Int) := by rw [Int.tdiv_eq_ediv_of_nonneg (by omega)]; unfold wrap64; omega
theorem tmod2 (a b : Nat) : (Int.tmod (a : Int) 2 = Int.tmod (b : Int) 2) ↔ a % 2 = b % 2 := by
 rw [Int.tmod_eq_emod_of_nonneg (by omega), Int.tmod_eq_emod_of_nonneg (by omega)]; omega
theorem turned_step (k a b i : Nat) (x5 x6 : Int) (hi : i < 32) (ha : a < 4294967296) (hb : b < 4294967296) (h5 : 0 ≤ x5 ∧ x5 ≤ 4294967296) (h6 : 0 ≤ x6 ∧ x6 ≤ 4294967296) :
  footwayref07_turned.l0 (k + 1) a b x5 x6 (i : Int) = if a % 2 = b % 2 then footwayref07_turned.l0 k ((a / 2 : Nat) : Int) ((b / 2 : Nat) : Int) x5 (2 * x6) ((i + 1 : Nat) : Int) else footwayref07_turned.l0 k ((a / 2 : Nat) : Int) ((b / 2 : Nat) : Int) (x5 + x6) (2 * x6) ((i + 1 : Nat) : Int) := by
 have e3 : wrap64 (2 * x6) = 2 * x6 := by unfold wrap64; omega
 have e4 : wrap64 ((i : Int) + 1) = ((i + 1 : Nat) : Int) := by unfold wrap64; omega
 have e5 : wrap64 (x5 + x6) = x5 + x6 := by unfold wrap64; omega
 have hi' : (i : Int) < 32 := by omega
 have e1 := tdiv2 ha
 have e2 := tdiv2 hb
 clear hi ha hb h5 h6
 rw [footwayref07_turned.l0, if_pos hi', e1, e2, e3, e4, e5]
 by_cases hm : a % 2 = b % 2
 ·rw [if_pos hm, if_pos ((tmod2 a b).2 hm)]
 ·rw [if_neg hm, if_neg fun h => hm ((tmod2 a b).1 h)]
theorem turned_end (k a b : Nat) (x5 x6 : Int) : footwayref07_turned.l0 (k + 1) a b x5 x6 ((32 : Nat) : Int) = some x5 := by
 rw [footwayref07_turned.l0, if_neg (by decide)]
theorem two_le {x : Int} {p : Nat} (hp : 1 ≤ p) (hx : 0 ≤ x) (h : x * (p : Int) ≤ 4294967296) : x ≤ 4294967296 := by
 have := Int.mul_le_mul_of_nonneg_left (show (1 : Int) ≤ (p : Int) by omega) hx
 rw [Int.mul_one] at this
 exact Int.le_trans this h
theorem xor_sum (a b : Nat) (x5 x6 : Int) : x5 + x6 * ((a ^^^ b : Nat) : Int) = if a % 2 = b % 2 then x5 + 2 * x6 * ((a / 2 ^^^ b / 2 : Nat) : Int) else (x5 + x6) + 2 * x6 * ((a / 2 ^^^ b / 2 : Nat) : Int) := by
 rw [xor_step a b]
 generalize a / 2 ^^^ b / 2 = y
 split
 ·push_cast
  rw [Int.add_zero, ← Int.mul_assoc, Int.mul_comm x6 2]
 ·push_cast
  rw [Int.mul_add, Int.mul_one, ← Int.mul_assoc, Int.mul_comm x6 2, Int.add_assoc, Int.add_comm x6]
theorem turned_l (n : Nat) : ∀ (K a b i : Nat) (x5 x6 : Int), n + 1 ≤ K → i + n = 32 → a < 2 ^ n → b < 2 ^ n → 0 ≤ x5 → x5 < x6 → x6 * ((2 ^ n : Nat) : Int) ≤ 4294967296 → footwayref07_turned.l0 K a b x5 x6 (i : Int) = some (x5 + x6 * ((a ^^^ b : Nat) : Int)) := by
 induction n with
 | zero =>
  intro K a b i x5 x6 hK hn ha hb _ _ _
  obtain ⟨k, rfl⟩ : ∃ k, K = k + 1 := ⟨K - 1, by omega⟩
  have ha : a = 0 := by simpa using ha
  have hb : b = 0 := by simpa using hb
  obtain rfl : i = 32 := hn
  rw [turned_end, ha, hb]
  simp
 | succ n ih =>
  intro K a b i x5 x6 hK hn ha hb h0 h1 h2
  obtain ⟨k, rfl⟩ : ∃ k, K = k + 1 := ⟨K - 1, by omega⟩
  have hpow : (2 : Nat) ^ (n + 1) = 2 * 2 ^ n := by rw [Nat.pow_succ, Nat.mul_comm]
  have hle : (2 : Nat) ^ (n + 1) ≤ 4294967296 := Nat.le_trans (Nat.pow_le_pow_right (by decide) (show n + 1 ≤ 32 by omega)) (by decide)
  have hge : 1 ≤ (2 : Nat) ^ n := Nat.one_le_two_pow
  have hi : i < 32 := by omega
  have hk : n + 1 ≤ k := by omega
  have hin : i + 1 + n = 32 := by omega
  have ha4 : a < 4294967296 := Nat.lt_of_lt_of_le ha hle
  have hb4 : b < 4294967296 := Nat.lt_of_lt_of_le hb hle
  have hx6 := two_le (Nat.one_le_two_pow) (by omega) h2
  rw [turned_step k a b i x5 x6 hi ha4 hb4 ⟨h0, by omega⟩ ⟨by omega, hx6⟩]
  rw [hpow] at ha hb h2
  have h3 : (2 * x6) * ((2 ^ n : Nat) : Int) ≤ 4294967296 := by
   rw [Int.mul_comm 2 x6, Int.mul_assoc]
   rw [Int.natCast_mul] at h2
   exact h2
  rw [xor_sum a b]
  rw [ih k (a / 2) (b / 2) (i + 1) x5 (2 * x6) hk hin (half_lt ha) (half_lt hb) h0 (by omega) h3, ih k (a / 2) (b / 2) (i + 1) (x5 + x6) (2 * x6) hk hin (half_lt ha) (half_lt hb) (by omega) (by omega) h3]
  split <;> rfl
theorem rTurned (K : Nat) (hK : 33 ≤ K) {a b : Int} (ha : 0 ≤ a ∧ a < 4294967296) (hb : 0 ≤ b ∧ b < 4294967296) : footwayref07_turned.f K a b = some (Go.bits .xor .u32 a b) := by
 obtain ⟨a, rfl⟩ := Int.eq_ofNat_of_zero_le ha.1
 obtain ⟨b, rfl⟩ := Int.eq_ofNat_of_zero_le hb.1
 have e : (2 : Nat) ^ 32 = 4294967296 := by decide
 have := turned_l 32 K a b 0 0 1 hK rfl (by rw [e]; omega) (by rw [e]; omega) (by omega) (by omega) (by rw [e]; omega)
 rw [bits_xor32 a b (by omega) (by omega)]
 rw [Int.zero_add, Int.one_mul] at this
 exact this
theorem xor_range {x y : Int} (hx : 0 ≤ x ∧ x < 4294967296) (hy : 0 ≤ y ∧ y < 256) : 0 ≤ Go.bits .xor .u32 x y ∧ Go.bits .xor .u32 x y < 4294967296 := by
 obtain ⟨x, rfl⟩ := Int.eq_ofNat_of_zero_le hx.1
 obtain ⟨y, rfl⟩ := Int.eq_ofNat_of_zero_le hy.1
 rw [bits_xor32 x y (by omega) (by omega)]
 have e : (2 : Nat) ^ 32 = 4294967296 := by decide
 have : x ^^^ y < 2 ^ 32 := Nat.xor_lt_two_pow (by omega) (by omega)
 rw [e] at this
 generalize x ^^^ y = z at *
 omega
theorem rS_gen (k : Nat) (hk : 33 ≤ k) {s : ByteArray} (hz : s.size = 6) {x y t : Int} {i : Nat} (hi : i < 6) (hb : bt s (i : Int) = y) (hy : 0 ≤ y ∧ y < 256) (ht : footwayref07_turned.f k x y = some t) (ht2 : 0 ≤ t ∧ t < 4294967296) :
  footwayref07_Sum.l0 (k + 1) x s (i : Int) = footwayref07_Sum.l0 k (t * 16777619 % 4294967296) s ((i + 1 : Nat) : Int) := by
 have e1 : wrap64 y = y := by unfold wrap64; omega
 have e2 : wrap64 (t * 16777619) = t * 16777619 := by unfold wrap64; omega
 have e3 : wrap64 ((i : Int) + 1) = ((i + 1 : Nat) : Int) := by unfold wrap64; omega
 rw [footwayref07_Sum.l0, if_pos (by omega), if_pos (by omega), if_pos (by rw [hz]; omega), hb, e1, ht]
 simp only [Option.bind_some]
 rw [e2, e3, Int.tmod_eq_emod_of_nonneg (by omega)]
theorem rS_step (k : Nat) (hk : 33 ≤ k) {a : Int} (h0 : 0 ≤ a) (h1 : a ≤ 281474976710655) {i : Nat} (hi : i < 6) : footwayref07_Sum.l0 (k + 1) (Hk.hsx a i) (strOfNums (b6 a)) (i : Int) = footwayref07_Sum.l0 k (Hk.hsx a (i + 1)) (strOfNums (b6 a)) ((i + 1 : Nat) : Int) := by
 have hb := b6_lt h0 h1 hi
 have hh := hsx_range a i
 have hz : (strOfNums (b6 a)).size = 6 := by rw [str_size]; rfl
 rw [rS_gen k hk hz hi (bt_b6 h0 h1 i) hb (rTurned k hk hh ⟨hb.1, Int.lt_trans hb.2 (by decide)⟩) (xor_range hh hb), hsx_succ h0 h1 hi]
theorem rS_end (k : Nat) (x : Int) (s : ByteArray) : footwayref07_Sum.l0 (k + 1) x s ((6 : Nat) : Int) = some x := by
 rw [footwayref07_Sum.l0, if_neg (by decide)]
theorem rS_all {a : Int} (h0 : 0 ≤ a) (h1 : a ≤ 281474976710655) (j : Nat) : ∀ (K i : Nat), i + j = 6 → 33 + j ≤ K → footwayref07_Sum.l0 K (Hk.hsx a i) (strOfNums (b6 a)) (i : Int) = some (Hk.hsx a 6) := by
 induction j with
 | zero =>
  intro K i hi hK
  obtain rfl : i = 6 := by omega
  obtain ⟨k, rfl⟩ : ∃ k, K = k + 1 := ⟨K - 1, by omega⟩
  exact rS_end k _ _
 | succ j ih =>
  intro K i hi hK
  obtain ⟨k, rfl⟩ : ∃ k, K = k + 1 := ⟨K - 1, by omega⟩
  rw [rS_step k (by omega) h0 h1 (by omega)]
  exact ih k (i + 1) (by omega) (by omega)
theorem rSum {a : Int} (h0 : 0 ≤ a) (h1 : a ≤ 281474976710655) (K : Nat) (hK : 39 ≤ K) : footwayref07_Sum.f K a = some (Hk.sumx a) := by
 obtain ⟨k, rfl⟩ : ∃ k, K = k + 7 := ⟨K - 7, by omega⟩
 have hB := rBytes_eq k h0 h1
 unfold footwayref07_Sum.f
 rw [hB, sumx_eq]
 rw [Option.bind_some]
 have e0 : (2166136261 : Int) = Hk.hsx a 0 := rfl
 have e1 : (0 : Int) = ((0 : Nat) : Int) := rfl
 clear hB
 generalize k + 7 = K at hK ⊢
 rw [e0, e1]
 exact rS_all h0 h1 6 K 0 rfl hK
theorem mask {x : Int} (h : 0 ≤ x ∧ x < 4294967296) {n : Int} (hn : n = 1 ∨ n = 2 ∨ n = 4 ∨ n = 8 ∨ n = 16) : Go.bits .and .i64 x (n - 1) = x % n := by
 have hk : ∀ m : Int, 0 ≤ m → m < 2 ^ 32 → IntKind.i64.wrap m = m := fun m h1 h2 => by rw [IntKind.wrap_i64]; omega
 have m := fun i hi => bits_mask .i64 32 (by decide) hk i hi x h.1 (by omega)
 rcases hn with rfl | rfl | rfl | rfl | rfl
 ·simpa using m 0 (by omega)
 ·simpa using m 1 (by omega)
 ·simpa using m 2 (by omega)
 ·simpa using m 3 (by omega)
 ·simpa using m 4 (by omega)
theorem bkx_mod (a : Int) {n : Int} (hn : n = 1 ∨ n = 2 ∨ n = 4 ∨ n = 8 ∨ n = 16) : Hk.bkx a n = Hk.sumx a % n := by
 unfold Hk.bkx
 rw [show IntKind.i64.wrap (n - 1) = n - 1 by rw [IntKind.wrap_i64]; omega, mask (sumx_range a) hn]
theorem numB_iff (n : Int) : Hk.numB n = true ↔ (n = 1 ∨ n = 2 ∨ n = 4 ∨ n = 8 ∨ n = 16) := by
 constructor
 ·intro h
  obtain ⟨m, rfl, hm⟩ := Hk.numB_nat h
  exact hm
 ·rintro (rfl | rfl | rfl | rfl | rfl) <;> decide
theorem rNumber (n : Int) : footwayref07_Number.f n = some (Hk.numB n) := by
 unfold footwayref07_Number.f
 have := numB_iff n
 by_cases h1 : n = 1
 ·rw [if_pos h1, this.2 (by omega)]
 by_cases h2 : n = 2
 ·rw [if_neg h1, if_pos h2, this.2 (by omega)]
 by_cases h4 : n = 4
 ·rw [if_neg h1, if_neg h2, if_pos h4, this.2 (by omega)]
 by_cases h8 : n = 8
 ·rw [if_neg h1, if_neg h2, if_neg h4, if_pos h8, this.2 (by omega)]
 rw [if_neg h1, if_neg h2, if_neg h4, if_neg h8]
 by_cases h16 : n = 16
 ·rw [this.2 (by omega), h16]; rfl
 ·have : Hk.numB n = false := by
   cases hb : Hk.numB n with
   | false => rfl
   | true => have := this.1 hb; omega
  rw [this]
  simp [h16]
theorem hNumber (n : Int) : hash_isNumber.f n = some (Hk.numB n) := by
 unfold hash_isNumber.f Hk.numB
 have e : wrap64 (n - 1) = IntKind.i64.wrap (n - 1) := i64w _
 by_cases h1 : n ≥ 1
 ·rw [if_pos h1]
  by_cases h2 : n ≤ 16
  ·rw [if_pos h2, decide_eq_true h2, decide_eq_true (show 1 ≤ n from h1), e]
   simp only [Bool.true_and]
   rfl
  ·rw [if_neg h2, decide_eq_false h2]; simp
 ·rw [if_neg h1, decide_eq_false (show ¬ 1 ≤ n from h1)]; simp
theorem rRight (a : Int) : footwayref01_Right.f a = some (Hk.rightB a) := by
 unfold footwayref01_Right.f Hk.rightB
 by_cases h : a ≥ 0
 ·rw [if_pos h, decide_eq_true (show 0 ≤ a from h), Bool.true_and]
  congr 1
  by_cases h2 : a < 281474976710656
  ·rw [decide_eq_true h2, decide_eq_true (by omega)]
  ·rw [decide_eq_false h2, decide_eq_false (by omega)]
 ·rw [if_neg h, decide_eq_false (show ¬ 0 ≤ a from h)]; simp
theorem rightB_iff (a : Int) : Hk.rightB a = true ↔ 0 ≤ a ∧ a ≤ 281474976710655 := by simp [Hk.rightB]
theorem hBucket (k : Nat) {a n : Int} (ha : Hk.rightB a = true) (hn : Hk.numB n = true) : hash_Bucket.f (k + 7) a n = some (Hk.bkx a n, 0) := by
 obtain ⟨h0, h1⟩ := (rightB_iff a).1 ha
 unfold hash_Bucket.f
 rw [hNumber, hn]
 simp only [Option.bind_some, if_true]
 rw [hSum h0 h1]
 simp only [Option.bind_some]
 rw [i64w]
 rfl
theorem hBucket_no (k : Nat) {a n : Int} (hn : Hk.numB n = false) : hash_Bucket.f k a n = some (0, 2) := by
 unfold hash_Bucket.f
 rw [hNumber, hn]
 simp
theorem hBucket_bad (k : Nat) {a n : Int} (ha : Hk.rightB a = false) (hn : Hk.numB n = true) : hash_Bucket.f k a n = some (0, 1) := by
 have h : ¬ (0 ≤ a ∧ a ≤ 281474976710655) := fun h => by rw [(rightB_iff a).2 h] at ha; cases ha
 unfold hash_Bucket.f
 rw [hNumber, hn]
 simp only [Option.bind_some, if_true]
 rw [hSum_no h]
 simp only [Option.bind_some]
 have hn' := (numB_iff n).1 hn
 rw [show wrap64 (n - 1) = n - 1 by unfold wrap64; omega, mask (by omega) hn']
 simp
theorem rBucket (K : Nat) (hK : 39 ≤ K) {a n : Int} (ha : Hk.rightB a = true) (hn : Hk.numB n = true) : footwayref07_Bucket.f K a n = some (Hk.bkx a n) := by
 obtain ⟨h0, h1⟩ := (rightB_iff a).1 ha
 have hn' := (numB_iff n).1 hn
 unfold footwayref07_Bucket.f
 rw [rSum h0 h1 K hK, Option.bind_some]
 rw [if_neg (by omega), bkx_mod a hn', Int.tmod_eq_emod_of_nonneg (sumx_range a).1]
end Go.Proofs.Ytnikfjfcbpeieaa.HP
end
section
namespace Go.Proofs.Ytnikfjfcbpeieaa.HP
open Go.RowKit Go.Proofs.Ytnikfjfcbpeieaa.PHp Go.Proofs.Ytnikfjfcbpeieaa.EHa Go.Proofs.YtnikfjfcbpeieaaW.PrintWords Go.Proofs.YtnikfjfcbpeieaaW.PrintLast Go.Proofs.YtnikfjfcbpeieaaW.PrintMore
set_option linter.unusedVariables false
set_option linter.unusedSimpArgs false
def cnt (l : List Int) (n b : Int) : Int := ((l.countP fun a => decide (Hk.bkx a n = b) : Nat) : Int)
theorem inc_get (c : List Int) (x : Int) (b : Nat) (hx : 0 ≤ x) (hb : b < c.length) : (Hk.inc c x).getD b 0 = if x = (b : Int) then IntKind.i64.wrap (c.getD b 0 + 1) else c.getD b 0 := by
 unfold Hk.inc
 rw [List.getD_eq_getElem?_getD, List.getD_eq_getElem?_getD, List.getElem?_set]
 by_cases h : x = (b : Int)
 ·subst h
  simp [hb]
 ·rw [if_neg h, if_neg (by omega)]
  rw [List.getD_eq_getElem?_getD]
theorem foldl_inc (xs : List Int) : ∀ c : List Int, (∀ x ∈ xs, 0 ≤ x ∧ x < (c.length : Int)) → ∀ b : Nat, b < c.length → 0 ≤ c.getD b 0 → c.getD b 0 + xs.length ≤ 1000000000000 → (xs.foldl Hk.inc c).getD b 0 = c.getD b 0 + ((xs.countP fun x => decide (x = (b : Int)) : Nat) : Int) := by
 induction xs with
 | nil => intro c _ b _ _ _; simp
 | cons x xs ih =>
  intro c hx b hb h0 h1
  obtain ⟨hx0, hx1⟩ := hx x (by simp)
  have hg := inc_get c x b hx0 hb
  rw [List.length_cons] at h1
  have hw : IntKind.i64.wrap (c.getD b 0 + 1) = c.getD b 0 + 1 := by rw [IntKind.wrap_i64]; omega
  rw [hw] at hg
  rw [List.foldl_cons, ih (Hk.inc c x) (fun y hy => by rw [Hk.inc_length]; exact hx y (by simp [hy])) b (by rw [Hk.inc_length]; exact hb) (by rw [hg]; split <;> omega) (by rw [hg]; split <;> omega), hg, List.countP_cons]
  by_cases h : x = (b : Int)
  ·rw [if_pos h, decide_eq_true h]
   simp only [if_true]
   omega
  ·rw [if_neg h, decide_eq_false h]
   simp only [Bool.false_eq_true, if_false]
   omega
theorem bkx_lt (a : Int) {n : Int} (hn : n = 1 ∨ n = 2 ∨ n = 4 ∨ n = 8 ∨ n = 16) : 0 ≤ Hk.bkx a n ∧ Hk.bkx a n < n := Hk.bkx_range hn
theorem spr_get (l : List Int) {n : Nat} (hn : (n : Int) = 1 ∨ (n : Int) = 2 ∨ (n : Int) = 4 ∨ (n : Int) = 8 ∨ (n : Int) = 16) (hl : l.length ≤ 1000) {b : Nat} (hb : b < n) : (spr l n).getD b 0 = cnt l n b := by
 have h0 : (List.replicate n (0 : Int)).getD b 0 = 0 := by simp [List.getD_eq_getElem?_getD, List.getElem?_replicate, hb]
 have hlen : (Hk.bkl n l).length = l.length := by simp [Hk.bkl]
 unfold spr
 rw [foldl_inc (Hk.bkl n l) (List.replicate n 0) (fun x hx => ?_) b (by simpa using hb) (by rw [h0]; exact Int.le_refl 0) (by rw [h0, hlen]; omega), h0, Int.zero_add]
 ·unfold cnt Hk.bkl
  rw [List.countP_map]
  rfl
 ·obtain ⟨a, _, rfl⟩ := List.mem_map.1 hx
  rw [List.length_replicate]
  exact bkx_lt a hn
def cnts (l : List Int) (n j : Nat) : List Int := (List.range j).map fun b : Nat => cnt l n (b : Int)
theorem cnts_length (l : List Int) (n j : Nat) : (cnts l n j).length = j := by simp [cnts]
theorem cnts_get (l : List Int) (n : Nat) {j b : Nat} (hb : b < j) : (cnts l n j).getD b 0 = cnt l n b := by simp [cnts, List.getD_eq_getElem?_getD, hb]
theorem spr_cnts (l : List Int) {n : Nat} (hn : (n : Int) = 1 ∨ (n : Int) = 2 ∨ (n : Int) = 4 ∨ (n : Int) = 8 ∨ (n : Int) = 16) (hl : l.length ≤ 1000) : spr l n = cnts l n n := by
 apply List.ext_getElem?
 intro b
 by_cases hb : b < n
 ·have h := spr_get l hn hl hb
  have k := cnts_get l n hb
  rw [List.getD_eq_getElem?_getD] at h k
  have e1 : b < (spr l n).length := by rw [spr_length]; exact hb
  have e2 : b < (cnts l n n).length := by rw [cnts_length]; exact hb
  rw [List.getElem?_eq_getElem e1] at h ⊢
  rw [List.getElem?_eq_getElem e2] at k ⊢
  simp only [Option.getD_some] at h k
  rw [h, k]
 ·rw [List.getElem?_eq_none (by rw [spr_length]; omega), List.getElem?_eq_none (by rw [cnts_length]; omega)]
theorem cnt_nonneg (l : List Int) (n b : Int) : 0 ≤ cnt l n b := Int.natCast_nonneg _
theorem cnt_le (l : List Int) (n b : Int) : cnt l n b ≤ l.length := by unfold cnt; have := List.countP_le_length (p := fun a => decide (Hk.bkx a n = b)) (l := l); omega
theorem sprOk {l : List Int} (hl : l.length ≤ 1000) (hr : l.all Hk.rightB = true) {n : Nat} (hn : (n : Int) = 1 ∨ (n : Int) = 2 ∨ (n : Int) = 4 ∨ (n : Int) = 8 ∨ (n : Int) = 16) : hash_Spread.f l n = some (cnts l n n, 0) := by
 unfold hash_Spread.f
 rw [if_pos (by omega), if_pos ((numB_iff n).2 hn), if_pos hr, Int.toNat_natCast, spr_cnts l hn hl]
theorem sprBad {l : List Int} (hl : l.length ≤ 1000) (hr : l.all Hk.rightB = false) {n : Int} (hn : Hk.numB n = true) : hash_Spread.f l n = some ([], 1) := by
 unfold hash_Spread.f
 rw [if_pos (by omega), if_pos hn, if_neg (by rw [hr]; decide)]
theorem sprNo {l : List Int} (hl : l.length ≤ 1000) {n : Int} (hn : Hk.numB n = false) : hash_Spread.f l n = some ([], 2) := by
 unfold hash_Spread.f
 rw [if_pos (by omega), if_neg (by rw [hn]; decide)]
def most (c : List Int) : Int := c.foldl mx 0
theorem max_most {c : List Int} (h1 : 1 ≤ c.length) (h2 : c.length ≤ 1000) (h0 : ∀ x ∈ c, 0 ≤ x) : slices_Max.f c = some (most c) := by
 unfold slices_Max.f
 rw [if_pos ⟨h1, by omega⟩]
 cases c with
 | nil => simp at h1
 | cons x t =>
  have := h0 x (by simp)
  unfold most
  rw [List.foldl_cons]
  have e : mx 0 x = x := by unfold mx; split <;> omega
  rw [e]
  rfl
theorem cnts_pos (l : List Int) (n j : Nat) : ∀ x ∈ cnts l n j, 0 ≤ x := by
 intro x hx
 obtain ⟨b, _, rfl⟩ := List.mem_map.1 hx
 exact cnt_nonneg _ _ _
theorem crowdOk {l : List Int} (hl : l.length ≤ 1000) (hr : l.all Hk.rightB = true) {n : Nat} (hn : (n : Int) = 1 ∨ (n : Int) = 2 ∨ (n : Int) = 4 ∨ (n : Int) = 8 ∨ (n : Int) = 16) : hash_Crowd.f l n = some (most (cnts l n n), 0) := by
 unfold hash_Crowd.f
 rw [sprOk hl hr hn, Option.bind_some, if_pos rfl, max_most (by rw [cnts_length]; omega) (by rw [cnts_length]; omega) (cnts_pos l n n), Option.bind_some]
theorem crowdBad {l : List Int} (hl : l.length ≤ 1000) (hr : l.all Hk.rightB = false) {n : Int} (hn : Hk.numB n = true) : hash_Crowd.f l n = some (0, 1) := by
 unfold hash_Crowd.f
 rw [sprBad hl hr hn, Option.bind_some, if_neg (by decide)]
theorem crowdNo {l : List Int} (hl : l.length ≤ 1000) {n : Int} (hn : Hk.numB n = false) : hash_Crowd.f l n = some (0, 2) := by
 unfold hash_Crowd.f
 rw [sprNo hl hn, Option.bind_some, if_neg (by decide)]
theorem most55 : most (cnts [5, 5] 4 4) = 2 := by
 have h := bkx_lt 5 (n := 4) (by omega)
 have e : ∀ b : Int, cnt [5, 5] (4 : Nat) b = if Hk.bkx 5 4 = b then 2 else 0 := fun b => by
  unfold cnt
  rw [show ((4 : Nat) : Int) = 4 from rfl]
  simp only [List.countP_cons, List.countP_nil, decide_eq_true_eq]
  generalize Hk.bkx 5 4 = v
  by_cases hv : v = b
  ·simp only [if_pos hv]; rfl
  ·simp only [if_neg hv]; rfl
 unfold cnts
 simp only [e]
 generalize Hk.bkx 5 4 = v at *
 have : v = 0 ∨ v = 1 ∨ v = 2 ∨ v = 3 := by omega
 rcases this with rfl | rfl | rfl | rfl <;> decide
theorem alive_yes (K : Nat) (hK : 39 ≤ K) : footwaylaw07_alive.f K = some true := by
 obtain ⟨k, hk⟩ : ∃ k, K = k + 7 := ⟨K - 7, by omega⟩
 have e1 : hash_Sum.f K 0 = some (Hk.sumx 0, 0) := by rw [hk]; exact hSum (by decide) (by decide) k
 have e2 : footwayref07_Sum.f K 0 = some (Hk.sumx 0) := rSum (by decide) (by decide) K hK
 have e3 : hash_Crowd.f [5, 5] 4 = some (2, 0) := by
  have := crowdOk (l := [5, 5]) (by decide) (by decide) (n := 4) (by omega)
  rw [most55] at this
  exact this
 unfold footwaylaw07_alive.f
 rw [e1, Option.bind_some, e3, Option.bind_some, if_pos rfl, if_pos rfl, e2, Option.bind_some, if_pos rfl]
 rfl
theorem get_drop {l l' : List Int} {y : Int} {p : Nat} (hp : l.drop p = y :: l') : p < l.length ∧ rd l (p : Int) = y ∧ l.drop (p + 1) = l' := by
 have hpl : p < l.length := by
  have := congrArg List.length hp
  simp only [List.length_drop, List.length_cons] at this
  omega
 refine ⟨hpl, ?_, ?_⟩
 ·have := congrArg (fun x : List Int => x.getD 0 0) hp
  unfold rd
  rw [Int.toNat_natCast]
  simpa [List.getD_eq_getElem?_getD] using this
 ·have := congrArg List.tail hp
  simpa [List.tail_drop] using this
theorem w1 {p : Nat} (h : p < 1000000) : wrap64 ((p : Int) + 1) = ((p + 1 : Nat) : Int) := by unfold wrap64; omega
theorem rAll_l {l : List Int} (hl : l.length ≤ 1000) (l' : List Int) : ∀ (p K : Nat), l.drop p = l' → l'.length + 1 ≤ K → footwayref07_All.l0 K l (l.length : Int) (p : Int) = some (l'.all Hk.rightB) := by
 induction l' with
 | nil =>
  intro p K hp hK
  obtain ⟨k, rfl⟩ : ∃ k, K = k + 1 := ⟨K - 1, by omega⟩
  have : l.length ≤ p := by simpa using hp
  rw [footwayref07_All.l0, if_neg (by omega)]
  rfl
 | cons y l' ih =>
  intro p K hp hK
  obtain ⟨k, rfl⟩ : ∃ k, K = k + 1 := ⟨K - 1, by omega⟩
  obtain ⟨h1, h2, h3⟩ := get_drop hp
  rw [List.length_cons] at hK
  rw [footwayref07_All.l0, if_pos (by omega), if_pos (by omega), if_pos (by omega), h2, rRight, Option.bind_some, w1 (by omega)]
  cases hy : Hk.rightB y with
  | true => rw [if_pos rfl, ih (p + 1) k h3 (by omega), List.all_cons, hy, Bool.true_and]
  | false => rw [if_neg (by decide), List.all_cons, hy, Bool.false_and]
theorem rAll {l : List Int} (hl : l.length ≤ 1000) (K : Nat) (hK : l.length + 1 ≤ K) : footwayref07_All.f K l = some (l.all Hk.rightB) := by
 unfold footwayref07_All.f
 exact rAll_l hl l 0 K rfl hK
theorem rSp1 {l : List Int} (hl : l.length ≤ 1000) (hr : l.all Hk.rightB = true) {n : Int} (hn : Hk.numB n = true) {out : List Int} (ho : out.length ≤ 1000) {b : Nat} (hb : b < 1000) (l' : List Int) :
  ∀ (p K : Nat) (x : Int), l.drop p = l' → 39 ≤ K → 0 ≤ x → x + l'.length ≤ 100000 → footwayref07_Spread.l1 (K + l'.length + 1) l n out (b : Int) x l (l.length : Int) (p : Int) = footwayref07_Spread.l0 K l n (out ++ [x + cnt l' n b]) ((b + 1 : Nat) : Int) := by
 induction l' with
 | nil =>
  intro p K x hp hK hx hx2
  have : l.length ≤ p := by simpa using hp
  rw [List.length_nil, Nat.add_zero, footwayref07_Spread.l1, if_neg (by omega), if_pos (by omega), w1 (by omega)]
  have : cnt [] n b = 0 := rfl
  rw [this, Int.add_zero]
 | cons y l' ih =>
  intro p K x hp hK hx hx2
  obtain ⟨h1, h2, h3⟩ := get_drop hp
  rw [List.length_cons] at hx2
  have hy : Hk.rightB y = true := List.all_eq_true.1 hr y (List.mem_of_mem_drop (hp ▸ List.mem_cons_self ..))
  have hc : cnt (y :: l') n b = cnt l' n b + if Hk.bkx y n = (b : Int) then 1 else 0 := by
   unfold cnt
   rw [List.countP_cons]
   by_cases h : Hk.bkx y n = (b : Int)
   ·rw [if_pos h, decide_eq_true h]; simp
   ·rw [if_neg h, decide_eq_false h]; simp
  have hB := rBucket (K + l'.length + 1) (by omega) hy hn
  have hi := fun x hx hx2 => ih (p + 1) K x h3 hK hx hx2
  rw [List.length_cons, show K + (l'.length + 1) + 1 = (K + l'.length + 1) + 1 from rfl]
  generalize hz : K + l'.length + 1 = Z at *
  rw [footwayref07_Spread.l1, if_pos (by omega), if_pos (by omega), if_pos (by omega), h2, hB, Option.bind_some, w1 (by omega), hc]
  by_cases h : Hk.bkx y n = (b : Int)
  ·rw [if_pos h, if_pos h, show wrap64 (x + 1) = x + 1 by unfold wrap64; omega, hi (x + 1) (by omega) (by omega), show x + 1 + cnt l' n b = x + (cnt l' n b + 1) by rw [Int.add_assoc, Int.add_comm 1]]
  ·rw [if_neg h, if_neg h, hi x hx (by omega), Int.add_zero]
theorem cnts_succ (l : List Int) (n b : Nat) : cnts l n b ++ [cnt l n b] = cnts l n (b + 1) := by
 unfold cnts
 rw [List.range_succ, List.map_append]
 rfl
theorem rSp0 {l : List Int} (hl : l.length ≤ 1000) (hr : l.all Hk.rightB = true) {n : Nat} (hn : Hk.numB n = true) (hn2 : n ≤ 16) (j : Nat) :
  ∀ (b K : Nat), b + j = n → 39 + (j + 1) * (l.length + 3) ≤ K → footwayref07_Spread.l0 K l n (cnts l n b) (b : Int) = some (cnts l n n) := by
 induction j with
 | zero =>
  intro b K hb hK
  obtain ⟨k, rfl⟩ : ∃ k, K = k + 1 := ⟨K - 1, by omega⟩
  obtain rfl : b = n := by omega
  rw [footwayref07_Spread.l0, if_neg (by omega)]
 | succ j ih =>
  intro b K hb hK
  rw [Nat.add_mul, Nat.one_mul] at hK
  obtain ⟨k, rfl⟩ : ∃ k, K = (k + l.length + 1) + 1 := ⟨K - l.length - 2, by omega⟩
  have h1 := rSp1 hl hr hn (out := cnts l n b) (b := b) (by rw [cnts_length]; omega) (by omega) l 0 k 0 rfl (by omega) (by omega) (by omega)
  rw [footwayref07_Spread.l0, if_pos (by omega)]
  rw [Int.zero_add, cnts_succ] at h1
  exact h1.trans (ih (b + 1) k (by omega) (by omega))
theorem rSpread {l : List Int} (hl : l.length ≤ 60) (hr : l.all Hk.rightB = true) {n : Nat} (hn : Hk.numB n = true) (hn2 : n ≤ 16) (K : Nat) (hK : 1200 ≤ K) : footwayref07_Spread.f K l n = some (cnts l n n) := by
 unfold footwayref07_Spread.f
 show footwayref07_Spread.l0 K l n (cnts l n 0) ((0 : Nat) : Int) = _
 refine rSp0 (by omega) hr hn hn2 n 0 K (by omega) ?_
 have : (n + 1) * (l.length + 3) ≤ 17 * 63 := Nat.mul_le_mul (by omega) (by omega)
 omega
theorem rSame_l (a : List Int) (ha : a.length ≤ 1000) (l' : List Int) : ∀ (p K : Nat), a.drop p = l' → l'.length + 1 ≤ K → footwayref06_Same.l0 K a a (a.length : Int) (p : Int) = some true := by
 induction l' with
 | nil =>
  intro p K hp hK
  obtain ⟨k, rfl⟩ : ∃ k, K = k + 1 := ⟨K - 1, by omega⟩
  have : a.length ≤ p := by simpa using hp
  rw [footwayref06_Same.l0, if_neg (by omega)]
 | cons y l' ih =>
  intro p K hp hK
  obtain ⟨k, rfl⟩ : ∃ k, K = k + 1 := ⟨K - 1, by omega⟩
  obtain ⟨h1, h2, h3⟩ := get_drop hp
  rw [List.length_cons] at hK
  rw [footwayref06_Same.l0, if_pos (by omega), if_pos (by omega), if_pos (by omega), if_pos (by omega), if_pos rfl, w1 (by omega), ih (p + 1) k h3 (by omega)]
theorem rSame (a : List Int) (ha : a.length ≤ 1000) (K : Nat) (hK : a.length + 1 ≤ K) : footwayref06_Same.f K a a = some true := by
 unfold footwayref06_Same.f
 rw [if_pos rfl]
 exact rSame_l a ha a 0 K rfl hK
theorem few_eq (l : List Int) (h : l.length ≤ 1000000000000000) : footwaylaw07_few.f l = some (l.take 60) := by
 unfold footwaylaw07_few.f
 have e : mn (l.length : Int) 60 = ((min l.length 60 : Nat) : Int) := by unfold mn; split <;> omega
 rw [e, if_pos (by omega), if_pos (by omega), Int.toNat_natCast]
 congr 1
 apply List.ext_getElem?
 intro i
 by_cases hi : i < 60
 ·by_cases h2 : i < l.length
  ·rw [List.getElem?_take_of_lt (by omega), List.getElem?_take_of_lt hi]
  ·rw [List.getElem?_eq_none (by rw [List.length_take]; omega), List.getElem?_eq_none (by rw [List.length_take]; omega)]
 ·rw [List.getElem?_eq_none (by rw [List.length_take]; omega), List.getElem?_eq_none (by rw [List.length_take]; omega)]
end Go.Proofs.Ytnikfjfcbpeieaa.HP
end
