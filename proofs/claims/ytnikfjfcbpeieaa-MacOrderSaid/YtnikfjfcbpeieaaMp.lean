/- hex.value and mac.Parse. -/
import Derived.Test.YtnikfjfcbpeieaaOn
import Derived.Laws.BitsLemmas
namespace Go.Proofs.Ytnikfjfcbpeieaa.EOn
open Go.RowKit Go.Proofs.Ytnikfjfcbpeieaa.EFrame Go.Proofs.Ytnikfjfcbpeieaa.QF Go.Proofs.YtnikfjfcbpeieaaW.PrintWords Go.Proofs.YtnikfjfcbpeieaaW.PrintLast Go.Proofs.YtnikfjfcbpeieaaW.PrintMore
set_option linter.unusedVariables false
set_option linter.unusedSimpArgs false

theorem Tb.alloc {b i : Nat} {W : World} (h : Tb b i W) (hb : b < W.heap.size) (o : Obj) : Tb b i (W.alloc o) := by
  intro j hj
  rw [World.cell?_alloc_past _ _ _ hb, World.frozen?_alloc_past _ _ _ hb]
  exact h j hj
theorem Hx.alloc {b : Nat} {d : Bool} {W : World} (h : Hx b d W) (hb : b < W.heap.size) (o : Obj) : Hx b d (W.alloc o) := by
  cases d
  · obtain ⟨h0, h1, f0, f1, hT⟩ := h
    refine ⟨?_, ?_, ?_, ?_, hT.alloc hb o⟩
    · rw [World.cell?_alloc_past _ _ _ hb]; exact h0
    · rw [World.cell?_alloc_past _ _ _ hb]; exact h1
    · rw [World.frozen?_alloc_past _ _ _ hb]; exact f0
    · rw [World.frozen?_alloc_past _ _ _ hb]; exact f1
  · obtain ⟨h0, hT⟩ := h
    refine ⟨?_, hT.alloc hb o⟩
    rw [World.cell?_alloc_past _ _ _ hb]; exact h0

set_option maxRecDepth 100000 in
set_option maxHeartbeats 2000000 in
theorem value_any (b : Nat) (c : Int) (hc0 : 0 ≤ c) (hc1 : c ≤ 255) (done : Bool) (w : World) (hbl : b < w.heap.size) (hH : Hx b done w) :
    Calls Try.prog 63 #[.pointer (some ⟨b, 0, none⟩), .int .u8 c] w fun e w' => e = .returned (.int .i64 (tv 16 c.toNat)) ∧ Hx b true w' ∧ w.grownBy w' (some b) := by
  have hmf : ∀ (fn : Fn) (first cap : Array Value) (w : World), (Instr.makeFunc fn first cap).run Try.prog w = .ok (.func fn first cap) w := fun _ _ _ _ => rfl
  have hD := do_any b w.heap.size 0 done (w.alloc (.cells #[.pointer (some ⟨b, 0, none⟩)] 114)) (by omega) (by simp; omega) (by simp) (by simp) (hH.alloc hbl _)
  have hgA := World.grownBy_alloc w (.cells #[.pointer (some ⟨b, 0, none⟩)] 114) (some b)
  have p0 : (0 : Int) ≤ c := hc0
  have p1 : c < 256 := by omega
  go_enter Try.func63, Try.ntmps63
  go_wp2_with fail
  refine hD.mono ?_
  rintro e w2 ⟨rfl, hH2, hG2⟩
  have hcell : w2.cell? ⟨w.heap.size, 0, none⟩ = some (.pointer (some ⟨b, 0, none⟩)) := (World.cell?_of_block (a := ⟨w.heap.size, 0, none⟩) (hG2.block w.heap.size (by simp) (by simp; omega))).trans (by simp)
  have htab : w2.cell? ⟨b, 3 + c.toNat, none⟩ = some (.int .i64 (tv 16 c.toNat)) := (hH2.2 c.toNat (by omega)).1
  go_wp2
  go_ret
  exact ⟨rfl, hH2, grown_trans hgA hG2⟩

theorem zc : Try.zeroCells89.toList = [.int .u32 0, .int .i32 0, .int .u32 0] ++ List.replicate 256 (.int .i64 0) := by kernel_rfl

theorem fresh_Hx (w : World) : Hx w.heap.size false (w.alloc (.cells Try.zeroCells89 89)) := by
  have hz : ∀ i, (w.alloc (.cells Try.zeroCells89 89)).cell? ⟨w.heap.size, i, none⟩ = Try.zeroCells89.toList[i]? := fun i => by
    rw [World.cell?_alloc_at _ _ _ _ rfl, Array.getElem?_toList]
  refine ⟨?_, ?_, World.frozen?_alloc_at _ _ _ _ rfl, World.frozen?_alloc_at _ _ _ _ rfl, fun j hj => ⟨?_, World.frozen?_alloc_at _ _ _ _ rfl⟩⟩
  · rw [hz, zc]; rfl
  · rw [hz, zc]; rfl
  · rw [hz, zc, Nat.add_comm 3 j]
    show (List.replicate 256 (Value.int .i64 0))[j]? = some (.int .i64 0)
    rw [List.getElem?_replicate, if_pos hj]

/-- What is read behind k signs. -/
def pst (s : ByteArray) : Nat → Option Int
  | 0 => some 0
  | k + 1 => (pst s k).bind fun a => if k % 3 = 2 then (if bt s k = 58 then some a else none) else (if tv 16 (bt s k).toNat = 0 then none else some (a * 16 + (tv 16 (bt s k).toNat - 1)))

theorem tv_range (i j : Nat) : 0 ≤ tv i j ∧ tv i j ≤ i := by
  induction i with
  | zero => simp [tv]
  | succ i ih => simp only [tv]; split <;> omega

theorem pst_range (s : ByteArray) (k : Nat) : ∀ a, pst s k = some a → 0 ≤ a ∧ a < 16 ^ (k - k / 3) := by
  induction k with
  | zero => intro a h; simp [pst] at h; subst h; simp
  | succ k ih =>
    intro a h
    simp only [pst] at h
    obtain ⟨a0, h0, h⟩ := Option.bind_eq_some_iff.1 h
    obtain ⟨i0, i1⟩ := ih a0 h0
    have ht := tv_range 16 (bt s k).toNat
    split at h
    · rename_i h3
      split at h
      · obtain rfl := Option.some.inj h
        rw [show k + 1 - (k + 1) / 3 = k - k / 3 from by omega]
        exact ⟨i0, i1⟩
      · cases h
    · rename_i h3
      split at h
      · cases h
      · obtain rfl := Option.some.inj h
        rw [show k + 1 - (k + 1) / 3 = (k - k / 3) + 1 from by omega, Int.pow_succ]
        generalize (16 : Int) ^ (k - k / 3) = m at i1 ⊢
        omega

theorem pst_small (s : ByteArray) (k : Nat) (hk : k ≤ 17) (a : Int) (h : pst s k = some a) : 0 ≤ a ∧ a < 281474976710656 := by
  obtain ⟨h0, h1⟩ := pst_range s k a h
  refine ⟨h0, ?_⟩
  have hm : ∀ m : Fin 13, (16 : Int) ^ m.val ≤ 281474976710656 := by decide
  have := hm ⟨k - k / 3, by omega⟩
  exact Int.lt_of_lt_of_le h1 this

theorem pst_none (s : ByteArray) (k : Nat) (h : pst s k = none) : ∀ d, pst s (k + d) = none
  | 0 => h
  | d + 1 => by
    show pst s ((k + d) + 1) = none
    simp only [pst, pst_none s k h d]
    rfl

theorem or_nib (a v : Int) (h0 : 0 ≤ a) (h1 : a < 281474976710656) (h2 : 0 ≤ v) (h3 : v ≤ 15) : Go.bits .or .i64 (a * 16) v = a * 16 + v :=
  bits_join .i64 63 (by decide) (fun n h₀ h₁ => by rw [IntKind.wrap_i64]; omega) 4 (a * 16) v (by omega) (by omega) (by omega) h2 (by omega) (by omega)

theorem below_step2 {w w1 w2 : World} (h : Below w.heap.size w w1) (hg : w1.grownBy w2 (some w.heap.size)) : Below w.heap.size w w2 :=
  ⟨hg.os.trans h.os, hg.tape.trans h.tape, hg.output.trans h.output, Nat.le_trans h.size hg.size, fun k hk => (hg.block k (Nat.lt_of_lt_of_le hk h.size) (by intro e; injection e with e; omega)).trans (h.block k hk)⟩

def res (o : Option Int) : Value := match o with | some a => .tuple #[.int .i64 a, .int .i64 0] | none => .tuple #[.int .i64 0, .int .i64 9]

set_option maxRecDepth 100000 in
set_option maxHeartbeats 800000 in
theorem parse_go (s : ByteArray) (hs : s.size = 17) (w : World) :
    Calls Try.prog 29 #[.string s] w fun e w' => e = .returned (res (pst s 17)) ∧ Below w.heap.size w w' := by
  have d0 : decide ((s.size : Int) < 17) = false := decide_eq_false (by omega)
  have d1 : decide (17 < (s.size : Int)) = false := decide_eq_false (by omega)
  have d2 : decide (s.size < 17) = false := decide_eq_false (by omega)
  have d3 : decide (17 < s.size) = false := decide_eq_false (by omega)
  have hF := Aside0.mk (fresh_Hx w)
  have hs' := Lib.hid hs
  clear hs
  go_enter Try.func29, Try.ntmps29
  go_wp2_with fail
  go_loopw [5, 16] (fun a i wr => ∃ (k : Nat) (acc : Int) (dn : Bool), k ≤ 17 ∧ i = .int .i64 k ∧ a = .int .i64 acc ∧ Aside0 (pst s k = some acc) ∧ Aside0 (Hx w.heap.size dn wr) ∧ Aside0 (Below w.heap.size w wr) ∧ Aside0 (w.heap.size < wr.heap.size)) (fun _ i _ => 17 - (intOf i).toNat)
  case atStart => exact ⟨0, 0, false, Nat.zero_le _, rfl, rfl, ⟨rfl⟩, ⟨hF.out⟩, ⟨(Below.refl _ _).alloc (Nat.le_refl _) _⟩, ⟨by simp⟩⟩
  case round =>
    obtain ⟨k, acc, dn, hk, rfl, rfl, HP, HH, HB, HZ⟩ := hrel
    by_cases hlt : k < 17
    · have hb := bt_range s k
      have hks : k < s.size := by rw [hs'.out]; exact hlt
      have hx : ∀ h : k < s.size, ((s[k]'h).toNat : Int) = bt s k := bt_at s k
      generalize hbx : bt s k = x at hb hx
      have hV := value_any w.heap.size x hb.1 hb.2 dn wr HZ.out HH.out
      have hvr := tv_range 16 x.toNat
      have hpr := pst_small s k hk acc HP.out
      have hst : pst s (k + 1) = if k % 3 = 2 then (if x = 58 then some acc else none) else (if tv 16 x.toNat = 0 then none else some (acc * 16 + (tv 16 x.toNat - 1))) := by
        simp only [pst, HP.out, hbx, Option.bind_some]
      have HST := Lib.hid hst
      clear hst
      have HR := Lib.hid hpr
      clear hpr
      generalize hvx : tv 16 x.toNat = v at hV hvr HST
      have HV := Lib.hid hvx
      clear hvx
      have HX := Lib.hid hbx
      clear hbx
      have lost : pst s (k + 1) = none → pst s 17 = none := fun h => by
        have := pst_none s (k + 1) h (16 - k)
        rw [show k + 1 + (16 - k) = 17 from by omega] at this
        exact this
      have LOST := Lib.hid lost
      clear lost
      by_cases h3 : k % 3 = 2
      · have e3 : ((k : Int) % 3 == 2) = true := beq_iff_eq.2 (by omega)
        by_cases h58 : x = 58
        · have e58 : (x == 58) = true := beq_iff_eq.2 h58
          have h58' := Lib.hid h58
          clear h58
          go_wp2_with fail
          refine hV.mono ?_
          rintro e w2 ⟨rfl, hH2, hG2⟩
          go_wp2_with fail
          go_roundw
          case rel => exact ⟨k + 1, acc, true, by omega, by go_num, rfl, ⟨by rw [HST.out, if_pos h3, if_pos h58'.out]⟩, ⟨hH2⟩, ⟨below_step2 HB.out hG2⟩, ⟨Nat.lt_of_lt_of_le HZ.out hG2.size⟩⟩
          case measure => simp [intOf]; omega
        · have e58 : (x == 58) = false := beq_eq_false_iff_ne.2 h58
          go_wp2_with fail
          refine hV.mono ?_
          rintro e w2 ⟨rfl, hH2, hG2⟩
          go_wp2_with fail
          go_ret2
          rw [LOST.out (by rw [HST.out, if_pos h3, if_neg h58])]
          exact ⟨rfl, below_step2 HB.out hG2⟩
      · have e3 : ((k : Int) % 3 == 2) = false := beq_eq_false_iff_ne.2 (by omega)
        by_cases hv0 : v = 0
        · have ev : (v == 0) = true := beq_iff_eq.2 hv0
          have hv0' := Lib.hid hv0
          clear hv0
          go_wp2_with fail
          refine hV.mono ?_
          rintro e w2 ⟨rfl, hH2, hG2⟩
          go_wp2_with fail
          go_ret2
          rw [LOST.out (by rw [HST.out, if_neg h3, if_pos hv0'.out])]
          exact ⟨rfl, below_step2 HB.out hG2⟩
        · have ev : (v == 0) = false := beq_eq_false_iff_ne.2 hv0
          go_wp2_with fail
          refine hV.mono ?_
          rintro e w2 ⟨rfl, hH2, hG2⟩
          go_wp2_with fail
          go_roundw
          case rel => exact ⟨k + 1, acc * 16 + (v - 1), true, by omega, by go_num, by rw [show wrap64 (acc * 16) = acc * 16 from by have := HR.out; unfold wrap64; omega, or_nib acc (v - 1) HR.out.1 HR.out.2 (by omega) (by omega)], ⟨by rw [HST.out, if_neg h3, if_neg hv0]⟩, ⟨hH2⟩, ⟨below_step2 HB.out hG2⟩, ⟨Nat.lt_of_lt_of_le HZ.out hG2.size⟩⟩
          case measure => simp [intOf]; omega
    · obtain rfl : k = 17 := by omega
      go_wp2_with fail
      go_ret2
      rw [HP.out]
      exact ⟨rfl, HB.out⟩

theorem parse_short (s : ByteArray) (w : World) (h : s.size < 17) : Calls Try.prog 29 #[.string s] w fun e w' => e = .returned (.tuple #[.int .i64 0, .int .i64 7]) ∧ Below w.heap.size w w' := by
  have d0 : decide ((s.size : Int) < 17) = true := decide_eq_true (by omega)
  have d2 : decide (s.size < 17) = true := decide_eq_true (by omega)
  go_enter Try.func29, Try.ntmps29
  go_wp2
  go_ret2
  exact ⟨rfl, Below.refl _ _⟩

theorem parse_long (s : ByteArray) (w : World) (h : 17 < s.size) : Calls Try.prog 29 #[.string s] w fun e w' => e = .returned (.tuple #[.int .i64 0, .int .i64 8]) ∧ Below w.heap.size w w' := by
  have d0 : decide ((s.size : Int) < 17) = false := decide_eq_false (by omega)
  have d1 : decide (17 < (s.size : Int)) = true := decide_eq_true (by omega)
  have d2 : decide (s.size < 17) = false := decide_eq_false (by omega)
  have d3 : decide (17 < s.size) = true := decide_eq_true (by omega)
  go_enter Try.func29, Try.ntmps29
  go_wp2
  go_ret2
  exact ⟨rfl, Below.refl _ _⟩

def mac_Parse.f (a0 : ByteArray) : Option (Int × Int) := if a0.size < 17 then some (0, 7) else (if 17 < a0.size then some (0, 8) else (match pst a0 17 with | some a => some (a, 0) | none => some (0, 9)))

theorem mac_Parse.calls (a0 : ByteArray) (r1 r2 : Int) (w : World) (h : mac_Parse.f a0 = some (r1, r2)) :
    Calls Try.prog 29 #[.string a0] w fun e w' => e = .returned (.tuple #[.int .i64 r1, .int .i64 r2]) ∧ Below w.heap.size w w' := by
  unfold mac_Parse.f at h
  split at h
  · rename_i hc
    simp only [Option.some.injEq, Prod.mk.injEq] at h
    obtain ⟨rfl, rfl⟩ := h
    exact parse_short a0 w hc
  · split at h
    · rename_i hc
      simp only [Option.some.injEq, Prod.mk.injEq] at h
      obtain ⟨rfl, rfl⟩ := h
      exact parse_long a0 w hc
    · rename_i h1 h2
      have := parse_go a0 (by omega) w
      split at h
      · rename_i a ha
        rw [ha] at this
        simp only [Option.some.injEq, Prod.mk.injEq] at h
        obtain ⟨rfl, rfl⟩ := h
        exact this
      · rename_i ha
        rw [ha] at this
        simp only [Option.some.injEq, Prod.mk.injEq] at h
        obtain ⟨rfl, rfl⟩ := h
        exact this
end Go.Proofs.Ytnikfjfcbpeieaa.EOn
