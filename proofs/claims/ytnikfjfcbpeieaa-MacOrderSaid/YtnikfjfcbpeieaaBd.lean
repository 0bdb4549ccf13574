/- strings.Builder's copyCheck and WriteByte at this program, and mac.Print's contract. -/
import Derived.Test.YtnikfjfcbpeieaaSh
import Derived.Test.YtnikfjfcbpeieaaQf
import Derived.WalkKit
import Derived.LoopTactic
namespace Go.Proofs.Ytnikfjfcbpeieaa.EPr
open Go.RowKit Go.Proofs.Ytnikfjfcbpeieaa.EFrame Go.Proofs.Ytnikfjfcbpeieaa.EMac Go.Proofs.Ytnikfjfcbpeieaa.QF Go.Proofs.YtnikfjfcbpeieaaW.PrintWords Go.Proofs.YtnikfjfcbpeieaaW.PrintLast Go.Proofs.YtnikfjfcbpeieaaW.PrintMore
set_option linter.unusedVariables false
set_option linter.unusedSimpArgs false

theorem size94 : (Try.prog.info? 94).map (·.size) = some 2 := by kernel_rfl
theorem info5 : (Try.prog.info? 5).map (fun i => (i.zero, i.size, i.bytes)) = some (some (.int .u8 0), 1, 1) := by kernel_rfl

set_option maxRecDepth 100000 in
theorem check_used (b : Nat) (w : World) (h0 : w.cell? ⟨b, 0, none⟩ = some (.pointer (some ⟨b, 0, none⟩))) :
    Calls Try.prog 87 #[.pointer (some ⟨b, 0, none⟩)] w fun e w' => e = .returned (.tuple #[]) ∧ w' = w := by
  obtain ⟨j, hj, _⟩ := Option.map_eq_some_iff.1 size94
  go_enter Try.func87, Try.ntmps87
  go_wp2
  rw [Lib.run_neq_ptr_same w _ Try.underlying92 hj]
  go_wp2
  go_end0
  exact ⟨rfl, rfl⟩

set_option maxRecDepth 100000 in
theorem check_fresh (b : Nat) (w : World) (h0 : w.cell? ⟨b, 0, none⟩ = some (.pointer none)) (hsh : w.shape? b = some (94, 2)) (hfz : w.frozen? ⟨b, 0, none⟩ = false) :
    Calls Try.prog 87 #[.pointer (some ⟨b, 0, none⟩)] w fun e w' => e = .returned (.tuple #[]) ∧ w' = w.setCell ⟨b, 0, none⟩ (.pointer (some ⟨b, 0, none⟩)) := by
  obtain ⟨j, hj, hjs⟩ := Option.map_eq_some_iff.1 size94
  go_enter Try.func87, Try.ntmps87
  go_wp2
  rw [Lib.run_to_unsafe w ⟨b, 0, none⟩ Try.underlying92 Try.underlying124 hj (by rw [hjs]; decide) hsh (Nat.zero_lt_succ 1)]
  simp only [Result.andThen]
  rw [Oper.upon_value]
  go_wp2
  rw [run_callFunc_extern Try.func114 (by kernel_rfl) (by kernel_rfl) (by kernel_rfl) (e := Extern.AbiNoEscape.same) (by kernel_rfl)]
  rw [Lib.run_noEscape]
  simp only [Result.andThen]
  rw [Oper.upon_value]
  go_wp2
  rw [Lib.run_from_unsafe w ⟨b, 0, none⟩ Try.underlying124 Try.underlying92 hj hsh (by kernel_rfl)]
  simp only [Result.andThen]
  rw [Oper.upon_value]
  go_wp2
  go_end0
  exact ⟨rfl, rfl⟩

theorem check_any (B b : Nat) (bs : List Value) (w : World) (h : Lib.IsBuilder 94 5 B b bs w) :
    Calls Try.prog 87 #[.pointer (some ⟨b, 0, none⟩)] w fun e w' => e = .returned (.tuple #[]) ∧ (Lib.BuilderAt 94 5 B b (.pointer (some ⟨b, 0, none⟩)) bs w' ∧ Below B w w') := by
  rcases h with h | h
  · refine (check_fresh b w h.cell0 h.shape h.frozen0).mono ?_
    rintro e w' ⟨rfl, rfl⟩
    exact ⟨rfl, h.used _, (Below.refl B w).setCell (p := ⟨b, 0, none⟩) h.1 _⟩
  · refine (check_used b w h.cell0).mono ?_
    rintro e w' ⟨rfl, rfl⟩
    exact ⟨rfl, h, Below.refl B _⟩

set_option maxHeartbeats 2000000 in
set_option maxRecDepth 100000 in
theorem write_any (B b : Nat) (bs : List Value) (c : Int) (w : World) (h : Lib.IsBuilder 94 5 B b bs w) (hlen : bs.length + 1 ≤ 1000) (hBw : B ≤ w.heap.size) :
    Calls Try.prog 65 #[.pointer (some ⟨b, 0, none⟩), .int .u8 c] w fun e w' => e = .returned .nilIface ∧ Lib.IsBuilder 94 5 B b (bs ++ [.int .u8 c]) w' ∧ Below B w w' := by
  obtain ⟨i0, hi, hz0, hz1, hz2⟩ := info_parts info5
  go_enter Try.func65, Try.ntmps65
  go_wp2_with (go_at_call 87; refine (check_any B b bs _ h).mono ?_)
  rintro e w1 ⟨rfl, ⟨hB, v, hbk, hown, hne⟩, hb1⟩
  have c0 : w1.cell? ⟨b, 0, none⟩ = some (.pointer (some ⟨b, 0, none⟩)) := blk_cell hbk 0
  have c1 : w1.cell? ⟨b, 1, none⟩ = some v := blk_cell hbk 1
  go_wp2_with (at_builtin; refine wpList_append_own _ rfl _ _ 35 rfl B 5 i0 (.int .u8 0) 1 1 Try.underlying35 hi hz0 hz1 hz2 rfl (by decide) _ _ _ rfl (hown.alloc _) ⟨w1.heap.size, 0, none⟩ 1 1 [.int .u8 c] rfl rfl (cell_one_new _ _ _) (by simp [Value.oneCell']) (by unfold maxLen; omega) (by omega) (by have := hb1.size; simp; omega) ?_)
  intro v' w2 hown' hgrow _
  have hb2 : w2.heap[b]? = some (.cells #[.pointer (some ⟨b, 0, none⟩), v] 94 (0, 0)) := (hgrow.block b (by have := blk_lt hbk; simp; omega) (fun e => hne e.symm)).trans (blk_alloc hbk _)
  have d0 : w2.cell? ⟨b, 0, none⟩ = some (.pointer (some ⟨b, 0, none⟩)) := blk_cell hb2 0
  have d1 : w2.cell? ⟨b, 1, none⟩ = some v := blk_cell hb2 1
  have f1 : w2.frozen? ⟨b, 1, none⟩ = false := blk_frozen hb2 1
  obtain ⟨g, cap, rfl⟩ : ∃ g cap, v' = .slice (some ⟨g, 0, none⟩) (bs.length + 1) cap := by
    rcases hown'.2 with ⟨_, h0⟩ | ⟨g, cap, cur, hv, _⟩
    · omega
    · exact ⟨g, cap, hv⟩
  go_wp2
  go_ret
  refine ⟨rfl, .inr ?_, ?_⟩
  · exact Lib.BuilderAt.put (T := 94) (e := 5) hB hb2 (bs' := bs ++ [.int .u8 c]) (by simpa using hown') (by decide)
  · exact ((hb1.alloc (by have := hb1.size; omega) _).grown hgrow (by have := hb1.size; simp; omega) (fun k hk => (hown.lt k hk).1)).setCell (p := ⟨b, 1, none⟩) hB _

/-- A digit's byte. -/
def dig (n : Int) : Int := bt (⟨#[48, 49, 50, 51, 52, 53, 54, 55, 56, 57, 97, 98, 99, 100, 101, 102]⟩ : ByteArray) n

/-- The text of the first bytes. -/
def txt (s : ByteArray) : Nat → List Int
  | 0 => []
  | k + 1 => txt s k ++ ((if k = 0 then [] else [58]) ++ [dig (bt s k / 16), dig (bt s k % 16)])

theorem txt_len (s : ByteArray) (k : Nat) : (txt s k).length ≤ 3 * k := by
  induction k with
  | zero => simp [txt]
  | succ k ih => simp only [txt, List.length_append, List.length_cons, List.length_nil]; split <;> simp <;> omega

theorem txt_ok (s : ByteArray) (k : Nat) : ∀ x ∈ txt s k, 0 ≤ x ∧ x ≤ 255 := by
  induction k with
  | zero => simp [txt]
  | succ k ih =>
    intro x hx
    simp only [txt, List.mem_append] at hx
    rcases hx with hx | hx | hx
    · exact ih x hx
    · split at hx <;> simp at hx
      omega
    · simp only [List.mem_cons, List.not_mem_nil, or_false] at hx
      rcases hx with rfl | rfl <;> exact bt_range _ _

theorem u8_mask (x : Int) (h0 : 0 ≤ x) (h1 : x ≤ 255) : Go.bits .and .u8 x 15 = x % 16 := u8_and15 x h0 (by omega)

set_option maxHeartbeats 4000000 in
set_option maxRecDepth 100000 in
theorem print_go (a : Int) (s : ByteArray) (e : Int) (hs : s.size ≤ 6) (he : mac_Bytes.f a = some (s, e)) (w : World) :
    Calls Try.prog 34 #[.int .i64 a] w fun en w' => en = .returned (.tuple #[.string (strOfNums (txt s s.size)), .int .i64 e]) ∧ Below w.heap.size w w' := by
  go_enter Try.func34, Try.ntmps34
  go_wp2_with (go_at_call 33; refine (mac_Bytes.calls a s e _ he).mono ?_; rintro en w1 ⟨rfl, hb0⟩)
  have hsz1 := hb0.size
  have hBl : Lib.IsBuilder 94 5 w.heap.size w1.heap.size [] (w1.alloc (.cells #[.pointer none, .slice none 0 0] 94)) := .inl ⟨hb0.size, .slice none 0 0, blk_new _ _, World.ownsRow_nil _ _ _ _, by simp [Value.ownBlock]⟩
  go_loopw [15] (fun i wr => ∃ k : Nat, k ≤ s.size ∧ i = .int .i64 k ∧ Aside0 (Lib.IsBuilder 94 5 w.heap.size w1.heap.size ((txt s k).map (Value.int .u8)) wr) ∧ Aside0 (Below w.heap.size w wr)) (fun i _ => s.size - (intOf i).toNat)
  case atStart => exact ⟨0, Nat.zero_le _, rfl, ⟨hBl⟩, ⟨hb0.alloc hb0.size _⟩⟩
  case round =>
    obtain ⟨k, hk, rfl, HI, HB⟩ := hrel
    by_cases hlt : k < s.size
    · have hb := bt_range s k
      have hx : ∀ h : k < s.size, ((s[k]'h).toNat : Int) = bt s k := bt_at s k
      have hm := u8_mask (bt s k) hb.1 hb.2
      generalize hbx : bt s k = x at hb hx hm
      have y1 := bt_at (⟨#[48, 49, 50, 51, 52, 53, 54, 55, 56, 57, 97, 98, 99, 100, 101, 102]⟩ : ByteArray) (x / 16)
      have y2 := bt_at (⟨#[48, 49, 50, 51, 52, 53, 54, 55, 56, 57, 97, 98, 99, 100, 101, 102]⟩ : ByteArray) (x % 16)
      have p1 : (0 : Int) ≤ x / 16 := by omega
      have p2 : x / 16 < 16 := by omega
      have p3 : (0 : Int) ≤ x % 16 := by omega
      have p4 : x % 16 < 16 := by omega
      have hB1 := HB.out.size
      by_cases h0 : k = 0
      · subst h0
        go_wp2_with fail
        refine (write_any w.heap.size w1.heap.size _ _ _ HI.out (by simp [txt]) HB.out.size).mono ?_
        rintro en w2 ⟨rfl, hI2, hb2⟩
        go_wp2_with fail
        refine (write_any w.heap.size w1.heap.size _ _ _ hI2 (by simp [txt]) (Nat.le_trans hB1 hb2.size)).mono ?_
        rintro en w3 ⟨rfl, hI3, hb3⟩
        go_wp2_with fail
        go_roundw
        case rel => exact ⟨1, by omega, by go_num, ⟨by simpa [txt, dig, show bt s 0 = x from hbx] using hI3⟩, ⟨(HB.out.trans hb2).trans hb3⟩⟩
        case measure => simp [intOf]; omega
      · have d0 : decide ((0 : Int) < (k : Int)) = true := decide_eq_true (by omega)
        go_wp2_with fail
        refine (write_any w.heap.size w1.heap.size _ _ _ HI.out (by have := txt_len s k; simp; omega) HB.out.size).mono ?_
        rintro en w2 ⟨rfl, hI2, hb2⟩
        go_wp2_with fail
        refine (write_any w.heap.size w1.heap.size _ _ _ hI2 (by have := txt_len s k; simp; omega) (Nat.le_trans hB1 hb2.size)).mono ?_
        rintro en w3 ⟨rfl, hI3, hb3⟩
        go_wp2_with fail
        refine (write_any w.heap.size w1.heap.size _ _ _ hI3 (by have := txt_len s k; simp; omega) (Nat.le_trans hB1 (Nat.le_trans hb2.size hb3.size))).mono ?_
        rintro en w4 ⟨rfl, hI4, hb4⟩
        go_wp2_with fail
        go_roundw
        case rel => exact ⟨k + 1, by omega, by go_num, ⟨by simp only [txt, hbx]; rw [if_neg h0]; simpa [dig] using hI4⟩, ⟨((HB.out.trans hb2).trans hb3).trans hb4⟩⟩
        case measure => simp [intOf]; omega
    · obtain rfl : k = s.size := by omega
      have hok := fun x (hx : x ∈ txt s s.size) => txt_ok s s.size x hx
      have hcells : (txt s s.size).map (Value.int .u8) = Lib.byteCells ((txt s s.size).map fun n => UInt8.ofNat n.toNat) := by
        unfold Lib.byteCells
        rw [List.map_map]
        apply List.map_congr_left
        intro x hx
        have hb := hok x hx
        simp only [Function.comp_apply, UInt8.toNat_ofNat']
        congr 1
        omega
      have HI2 := HI.out
      rw [hcells] at HI2
      have HS := Try.Builder_String_any w.heap.size w1.heap.size _ _ HI2 HB.out.size
      go_wp2_with fail
      refine HS.mono ?_
      rintro en w2 ⟨rfl, hb2⟩
      go_wp2_with fail
      go_ret2
      exact ⟨rfl, HB.out.trans hb2⟩

def mac_Print.f (a0 : Int) : Option (ByteArray × Int) := (mac_Bytes.f a0).map fun p => (strOfNums (txt p.1 p.1.size), p.2)

theorem mac_Print.calls (a0 : Int) (r1 : ByteArray) (r2 : Int) (w : World) (h : mac_Print.f a0 = some (r1, r2)) :
    Calls Try.prog 34 #[.int .i64 a0] w fun e w' => e = .returned (.tuple #[.string r1, .int .i64 r2]) ∧ Below w.heap.size w w' := by
  unfold mac_Print.f at h
  obtain ⟨⟨s, e⟩, hs, h⟩ := Option.map_eq_some_iff.1 h
  simp only [Prod.mk.injEq] at h
  obtain ⟨rfl, rfl⟩ := h
  refine print_go a0 s e ?_ hs w
  unfold mac_Bytes.f at hs
  split at hs
  · simp only [Option.some.injEq, Prod.mk.injEq] at hs
    rw [← hs.1, str_size]; simp [b6]
  · simp only [Option.some.injEq, Prod.mk.injEq] at hs
    rw [← hs.1]; decide
end Go.Proofs.Ytnikfjfcbpeieaa.EPr
