/- Frames as plain numbers: what Print and Parse answer, and that one undoes the other. -/
import Derived.Test.YtnikfjfcbpeieaaFp
namespace Go.Proofs.Ytnikfjfcbpeieaa.QF
open Go.RowKit Go.Proofs.Ytnikfjfcbpeieaa.PBa Go.Proofs.Ytnikfjfcbpeieaa.EFrame Go.Proofs.Ytnikfjfcbpeieaa.EMac Go.Proofs.YtnikfjfcbpeieaaW.PrintWords Go.Proofs.YtnikfjfcbpeieaaW.PrintLast Go.Proofs.YtnikfjfcbpeieaaW.PrintMore
set_option linter.unusedVariables false
set_option linter.unusedSimpArgs false

theorem str_of_bytes (s : ByteArray) : strOfNums (bytesOf s) = s := by
  unfold bytesOf
  rw [Lib.Lz.strOfNums_map]

theorem bytes_inj {a b : ByteArray} (h : bytesOf a = bytesOf b) : a = b := by
  rw [← str_of_bytes a, ← str_of_bytes b, h]

theorem bytes_append (a b : ByteArray) : bytesOf (a ++ b) = bytesOf a ++ bytesOf b := by
  simp [bytesOf]

theorem bytes_of_str (l : List Int) (h : ∀ x ∈ l, 0 ≤ x ∧ x ≤ 255) : bytesOf (strOfNums l) = l := by
  have e : (strOfNums l).data.toList = l.map fun n => UInt8.ofNat n.toNat := by
    simp [strOfNums]
  unfold bytesOf
  rw [e, List.map_map]
  conv => rhs; rw [← List.map_id l]
  apply List.map_congr_left
  intro x hx
  have hb := h x hx
  simp only [Function.comp_apply, id_eq, UInt8.toNat_ofNat']
  omega

theorem bytes_ok (s : ByteArray) : ∀ x ∈ bytesOf s, 0 ≤ x ∧ x ≤ 255 := by
  intro x hx
  unfold bytesOf at hx
  obtain ⟨b, _, rfl⟩ := List.mem_map.1 hx
  have := b.toNat_lt
  omega

theorem bytes_extract (s : ByteArray) (i j : Nat) : bytesOf (s.extract i j) = ((bytesOf s).take j).drop i := by
  unfold bytesOf
  rw [← List.map_take, ← List.map_drop]
  congr 1
  simp [ByteArray.data_extract, List.extract_eq_take_drop, List.drop_take]

theorem bytes_len (s : ByteArray) : (bytesOf s).length = s.size := bytesOf_length s

theorem str_size (l : List Int) : (strOfNums l).size = l.length := by
  simp [strOfNums, ByteArray.size]

/-- The bytes of a frame. -/
def P (d c t : Int) (n : ByteArray) : List Int := b6 d ++ (b6 c ++ ([t / 256 % 256, t % 256] ++ bytesOf n))

def alive1 : Option Bool := (frame_Parse.f (⟨#[2, 0, 0, 0, 0, 1, 2, 0, 0, 0, 0, 2, 128, 66]⟩ : ByteArray)).map fun b => b.2.2.2.2 == 0 && (b.1 == 2199023255553 && (b.2.1 == 2199023255554 && (b.2.2.1 == 32834 && (b.2.2.2.1.toList == ([] : List UInt8)))))

theorem class_total (c : Int) : ∃ k e, mac_Class.f c = some (k, e) := by
  unfold mac_Class.f mac_Right.f
  repeat' split
  all_goals simp
  all_goals repeat' split
  all_goals simp

theorem macRight_total (c : Int) : ∃ r, mac_Right.f c = some r := by
  unfold mac_Right.f
  split
  · exact ⟨_, rfl⟩
  · exact ⟨_, rfl⟩

theorem right_total (d c t : Int) (n : ByteArray) : ∃ r, frame_Right.f d c t n = some r := by
  unfold frame_Right.f
  obtain ⟨k, e, hk⟩ := class_total c
  obtain ⟨r, hr⟩ := macRight_total d
  rw [hk, hr]
  simp only [Option.bind_some]
  repeat' split
  all_goals exact ⟨_, rfl⟩

theorem class_right {c : Int} {k : Int} (h : mac_Class.f c = some (k, 0)) : 0 ≤ c ∧ c ≤ 281474976710655 := by
  unfold mac_Class.f mac_Right.f at h
  split at h
  · rename_i h0
    refine ⟨h0, ?_⟩
    by_cases h1 : c ≤ 281474976710655
    · exact h1
    · simp [h1] at h
  · simp at h

theorem right_iff (d c t : Int) (n : ByteArray) : frame_Right.f d c t n = some true ↔ mac_Class.f c = some (0, 0) ∧ (0 ≤ d ∧ d ≤ 281474976710655) ∧ (0 ≤ t ∧ t ≤ 65535) ∧ n.size ≤ 100 := by
  unfold frame_Right.f
  obtain ⟨k, e, hk⟩ := class_total c
  rw [hk]
  simp only [Option.bind_some]
  unfold mac_Right.f
  by_cases h1 : e = 0
  · by_cases h2 : k = 0
    · subst h1 h2
      by_cases h3 : d ≥ 0
      · by_cases h4 : d ≤ 281474976710655
        · by_cases h5 : t ≥ 0
          · by_cases h6 : t ≤ 65535
            · have h3' : 0 ≤ d := h3
              have h5' : 0 ≤ t := h5
              simp [h3, h4, h5, h6, h3', h5']
              omega
            · simp [h3, h4, h5, h6]
          · have : ¬ 0 ≤ t := h5
            simp [h3, h4, h5, this]
        · simp [h3, h4]
      · have : ¬ 0 ≤ d := h3
        simp [h3, this]
    · simp [h1, h2]
  · simp [h1]

theorem b6_ok {a : Int} (h0 : 0 ≤ a) (h1 : a ≤ 281474976710655) : ∀ x ∈ b6 a, 0 ≤ x ∧ x ≤ 255 := by
  intro x hx
  simp only [b6, List.mem_cons, List.not_mem_nil, or_false] at hx
  omega

theorem P_ok {d c t : Int} {n : ByteArray} (hd : 0 ≤ d ∧ d ≤ 281474976710655) (hc : 0 ≤ c ∧ c ≤ 281474976710655) : ∀ x ∈ P d c t n, 0 ≤ x ∧ x ≤ 255 := by
  intro x hx
  simp only [P, List.mem_append] at hx
  rcases hx with hx | hx | hx | hx
  · exact b6_ok hd.1 hd.2 x hx
  · exact b6_ok hc.1 hc.2 x hx
  · simp at hx; omega
  · exact bytes_ok n x hx

theorem num6_cons (s : ByteArray) (x0 x1 x2 x3 x4 x5 : Int) (pre rest : List Int) (h : bytesOf s = pre ++ x0 :: x1 :: x2 :: x3 :: x4 :: x5 :: rest) : num6 s pre.length = x0 * 1099511627776 + x1 * 4294967296 + x2 * 16777216 + x3 * 65536 + x4 * 256 + x5 := by
  have g : ∀ j : Nat, bt s ((pre.length : Int) + j) = (x0 :: x1 :: x2 :: x3 :: x4 :: x5 :: rest).getD j 0 := by
    intro j
    rw [← rd_bytesOf, h]
    unfold rd
    rw [show ((pre.length : Int) + j).toNat = pre.length + j from by omega]
    simp [List.getD_eq_getElem?_getD, List.getElem?_append_right]
  have g0 := g 0
  have g1 := g 1
  have g2 := g 2
  have g3 := g 3
  have g4 := g 4
  have g5 := g 5
  simp only [Int.natCast_zero, Int.add_zero, List.getD_cons_zero, List.getD_cons_succ] at g0 g1 g2 g3 g4 g5
  unfold num6
  rw [g0]
  erw [g1, g2, g3, g4, g5]

theorem tnum_cons (s : ByteArray) (x y : Int) (pre rest : List Int) (hp : pre.length = 12) (h : bytesOf s = pre ++ x :: y :: rest) : tnum s = x * 256 + y := by
  have g : ∀ j : Nat, bt s ((12 : Int) + j) = (x :: y :: rest).getD j 0 := by
    intro j
    rw [← rd_bytesOf, h]
    unfold rd
    rw [show ((12 : Int) + j).toNat = pre.length + j from by omega]
    simp [List.getD_eq_getElem?_getD, List.getElem?_append_right]
  have g0 := g 0
  have g1 := g 1
  simp only [Int.natCast_zero, Int.add_zero, List.getD_cons_zero, List.getD_cons_succ] at g0 g1
  unfold tnum
  rw [g0]
  erw [g1]

theorem P_len (d c t : Int) (n : ByteArray) : (P d c t n).length = 14 + n.size := by
  simp [P, b6, bytes_len]; omega

theorem b6_sum {a : Int} (h0 : 0 ≤ a) (h1 : a ≤ 281474976710655) : a / 1099511627776 * 1099511627776 + a / 4294967296 % 256 * 4294967296 + a / 16777216 % 256 * 16777216 + a / 65536 % 256 * 65536 + a / 256 % 256 * 256 + a % 256 = a := by
  omega

theorem Parse_P {d c t : Int} {n : ByteArray} (hr : frame_Right.f d c t n = some true) : frame_Parse.f (strOfNums (P d c t n)) = some (d, c, t, n, 0) := by
  obtain ⟨hc, hd, ht, hn⟩ := (right_iff _ _ _ _).1 hr
  have hc' := class_right hc
  have hb : bytesOf (strOfNums (P d c t n)) = P d c t n := bytes_of_str _ (P_ok hd hc')
  have hz : (strOfNums (P d c t n)).size = 14 + n.size := by rw [str_size, P_len]
  have e0 : num6 (strOfNums (P d c t n)) 0 = d := by
    have := num6_cons (strOfNums (P d c t n)) _ _ _ _ _ _ [] _ (by rw [hb]; rfl)
    simp only [List.length_nil, Int.natCast_zero] at this
    rw [this]; exact b6_sum hd.1 hd.2
  have e1 : num6 (strOfNums (P d c t n)) 6 = c := by
    have := num6_cons (strOfNums (P d c t n)) _ _ _ _ _ _ (b6 d) _ (by rw [hb]; rfl)
    have e : num6 (strOfNums (P d c t n)) 6 = _ := this
    rw [e]; exact b6_sum hc'.1 hc'.2
  have e2 : tnum (strOfNums (P d c t n)) = t := by
    have := tnum_cons (strOfNums (P d c t n)) _ _ (b6 d ++ b6 c) _ rfl (by rw [hb]; rfl)
    rw [this]; omega
  have e3 : (strOfNums (P d c t n)).extract 14 (strOfNums (P d c t n)).size = n := by
    apply bytes_inj
    rw [bytes_extract, hb, hz, ← P_len d c t n, List.take_length]
    rfl
  unfold frame_Parse.f
  rw [e0, e1, e2, e3, hr]
  rw [if_neg (by omega), if_neg (by omega)]
  rfl

theorem six {l : List Int} (h : 14 ≤ l.length) : ∃ x0 x1 x2 x3 x4 x5 y0 y1 y2 y3 y4 y5 t0 t1 rest, l = x0 :: x1 :: x2 :: x3 :: x4 :: x5 :: y0 :: y1 :: y2 :: y3 :: y4 :: y5 :: t0 :: t1 :: rest := by
  rcases l with _ | ⟨x0, _ | ⟨x1, _ | ⟨x2, _ | ⟨x3, _ | ⟨x4, _ | ⟨x5, _ | ⟨y0, _ | ⟨y1, _ | ⟨y2, _ | ⟨y3, _ | ⟨y4, _ | ⟨y5, _ | ⟨t0, _ | ⟨t1, rest⟩⟩⟩⟩⟩⟩⟩⟩⟩⟩⟩⟩⟩⟩ <;> first | (exact ⟨_, _, _, _, _, _, _, _, _, _, _, _, _, _, _, rfl⟩) | (simp at h)

theorem b6_num {x0 x1 x2 x3 x4 x5 : Int} (h0 : 0 ≤ x0 ∧ x0 ≤ 255) (h1 : 0 ≤ x1 ∧ x1 ≤ 255) (h2 : 0 ≤ x2 ∧ x2 ≤ 255) (h3 : 0 ≤ x3 ∧ x3 ≤ 255) (h4 : 0 ≤ x4 ∧ x4 ≤ 255) (h5 : 0 ≤ x5 ∧ x5 ≤ 255) :
    b6 (x0 * 1099511627776 + x1 * 4294967296 + x2 * 16777216 + x3 * 65536 + x4 * 256 + x5) = [x0, x1, x2, x3, x4, x5] := by
  unfold b6
  simp only [List.cons.injEq, and_true]
  refine ⟨by omega, by omega, by omega, by omega, by omega, by omega⟩

theorem P_parse (s : ByteArray) (h : 14 ≤ s.size) : strOfNums (P (num6 s 0) (num6 s 6) (tnum s) (s.extract 14 s.size)) = s := by
  obtain ⟨x0, x1, x2, x3, x4, x5, y0, y1, y2, y3, y4, y5, t0, t1, rest, hl⟩ := six (l := bytesOf s) (by rw [bytes_len]; exact h)
  have ok := bytes_ok s
  rw [hl] at ok
  have e0 : num6 s 0 = _ := num6_cons s x0 x1 x2 x3 x4 x5 [] _ hl
  have e1 : num6 s 6 = _ := num6_cons s y0 y1 y2 y3 y4 y5 [x0, x1, x2, x3, x4, x5] _ hl
  have e2 := tnum_cons s t0 t1 [x0, x1, x2, x3, x4, x5, y0, y1, y2, y3, y4, y5] _ rfl hl
  have g0 := b6_num (ok x0 (by simp)) (ok x1 (by simp)) (ok x2 (by simp)) (ok x3 (by simp)) (ok x4 (by simp)) (ok x5 (by simp))
  have g1 := b6_num (ok y0 (by simp)) (ok y1 (by simp)) (ok y2 (by simp)) (ok y3 (by simp)) (ok y4 (by simp)) (ok y5 (by simp))
  have k0 := ok t0 (by simp)
  have k1 := ok t1 (by simp)
  unfold P
  rw [e0, e1, e2, g0, g1, bytes_extract, ← bytes_len, List.take_length, hl]
  rw [show (t0 * 256 + t1) / 256 % 256 = t0 from by omega, show (t0 * 256 + t1) % 256 = t1 from by omega]
  conv => rhs; rw [← str_of_bytes s, hl]
  rfl

/-- What Parse answers: a frame that may be, out of its bytes, or nothing. -/
theorem Parse_cases (s : ByteArray) : (∃ d c t n, frame_Parse.f s = some (d, c, t, n, 0) ∧ frame_Right.f d c t n = some true ∧ strOfNums (P d c t n) = s ∧ 14 ≤ s.size ∧ s.size ≤ 114) ∨ ∃ e, e ≠ 0 ∧ frame_Parse.f s = some (0, 0, 0, ⟨#[]⟩, e) := by
  unfold frame_Parse.f
  by_cases h0 : s.size < 14
  · rw [if_pos h0]; exact .inr ⟨7, by decide, rfl⟩
  · rw [if_neg h0]
    by_cases h1 : 114 < s.size
    · rw [if_pos h1]; exact .inr ⟨8, by decide, rfl⟩
    · rw [if_neg h1]
      obtain ⟨r, hr⟩ := right_total (num6 s 0) (num6 s 6) (tnum s) (s.extract 14 s.size)
      rw [hr]
      cases r
      · exact .inr ⟨10, by decide, rfl⟩
      · exact .inl ⟨_, _, _, _, rfl, hr, P_parse s (by omega), by omega, by omega⟩

theorem joined_step (k : Nat) (x : List Int) (l : List ByteArray) (i j : Int) (hj : j = i + 1) (h0 : 0 ≤ i) (h1 : i < l.length) (hl : l.length ≤ 10) (hx : x.length ≤ 10000) (hs : (rdOf ByteArray.empty l i).size ≤ 10000) :
    frame_joined.l0 (k + 1) x l (l.length : Int) i = frame_joined.l0 k (x ++ bytesOf (rdOf ByteArray.empty l i)) l (l.length : Int) j := by
  subst hj
  rw [frame_joined.l0, if_pos h1, if_pos h0, if_pos h1, if_pos (by omega)]
  rw [show wrap64 (i + 1) = i + 1 from by unfold wrap64; omega]

theorem joined_eq (k : Nat) (a b c d : ByteArray) (ha : a.size ≤ 1000) (hb : b.size ≤ 1000) (hc : c.size ≤ 1000) (hd : d.size ≤ 1000) :
    frame_joined.f (k + 5) [a, b, c, d] = some (strOfNums (bytesOf a ++ (bytesOf b ++ (bytesOf c ++ bytesOf d)))) := by
  unfold frame_joined.f
  rw [joined_step (k + 4) _ _ 0 1 rfl (by decide) (by simp) (by simp) (by simp) (by exact Nat.le_trans ha (by decide))]
  rw [joined_step (k + 3) _ _ 1 2 rfl (by decide) (by simp) (by simp) (by simp [bytes_len, rdOf]; omega) (by exact Nat.le_trans hb (by decide))]
  rw [joined_step (k + 2) _ _ 2 3 rfl (by decide) (by simp) (by simp) (by simp [bytes_len, rdOf]; omega) (by exact Nat.le_trans hc (by decide))]
  rw [joined_step (k + 1) _ _ 3 4 rfl (by decide) (by simp) (by simp) (by simp [bytes_len, rdOf]; omega) (by exact Nat.le_trans hd (by decide))]
  rw [frame_joined.l0, if_neg (by simp)]
  simp [rdOf, List.append_assoc]

theorem few_eq (d c t : Int) (n : ByteArray) : footwaylaw02_few.f d c t n = some (d, c, t, n.extract 0 (min n.size 130)) := by
  unfold footwaylaw02_few.f
  have e : mn (n.size : Int) 130 = ((min n.size 130 : Nat) : Int) := by unfold mn; split <;> omega
  rw [e, if_pos (by omega), if_pos (by omega)]
  rfl
end Go.Proofs.Ytnikfjfcbpeieaa.QF
