/- The contract of frame.Parse (by hand). -/
import Derived.Test.YtnikfjfcbpeieaaPBax1
import Derived.Test.YtnikfjfcbpeieaaBy
import Derived.Lib.ConvBytes
import Derived.Outline
import Derived.RegionTactic
import Derived.ChangeAlike
import Derived.Lib.Hide
import Derived.Lib.LazyBuf
import Derived.Deep.RegionHeld3
import Derived.OrdersHeld
import Derived.Laws.NewBlocks
namespace Go.Proofs.Ytnikfjfcbpeieaa.EFrame
open Go.RowKit Go.Proofs.Ytnikfjfcbpeieaa.PBa Go.Proofs.YtnikfjfcbpeieaaW.PrintWords Go.Proofs.YtnikfjfcbpeieaaW.PrintLast Go.Proofs.YtnikfjfcbpeieaaW.PrintMore
set_option linter.unusedVariables false
set_option linter.unusedSimpArgs false

theorem cells_C (W : World) (B lo : Nat) (xs : List Int) (hl : xs.length ≤ 1000) (h : ∀ j p, xs[j]? = some p → W.cell? ⟨B, lo + j, none⟩ = some (.int .u8 p)) : Kd.C (Kd.int .u8) W (some ⟨B, lo, none⟩) xs.length xs := by
  refine ⟨rfl, by omega, fun _ => ⟨_, rfl, fun j p hj => ⟨[.int .u8 p], rfl, rfl, fun i u hu => ?_⟩⟩⟩
  have hi : i = 0 := by
    rcases i with _ | i
    · rfl
    · simp at hu
  subst hi
  have hu' : u = .int .u8 p := by simpa using hu.symm
  subst hu'
  have e : (⟨B, lo, none⟩ : Addr).add (j * (Kd.int .u8).sz + 0) = ⟨B, lo + j, none⟩ := by
    show Addr.add _ (j * 1 + 0) = _
    unfold Addr.add
    split
    · have : j = 0 := by omega
      subst this; rfl
    · simp
  rw [e]
  exact h j p hj

/-- The bytes of a piece, as numbers. -/
def nums (s : ByteArray) (lo m : Nat) : List Int := ((s.data.toList.drop lo).take m).map fun b => (b.toNat : Int)

theorem nums_len (s : ByteArray) (lo m : Nat) (h : lo + m ≤ s.size) : (nums s lo m).length = m := by
  have : s.data.toList.length = s.size := by simp
  simp only [nums, List.length_map, List.length_take, List.length_drop, this]
  omega

theorem nums_str (s : ByteArray) (lo m : Nat) : strOfNums (nums s lo m) = s.extract lo (lo + m) := by
  unfold nums
  rw [Lib.Lz.strOfNums_map]
  apply ByteArray.ext
  apply Array.toList_inj.1
  simp [ByteArray.data_extract, List.drop_take]

/-- What a world holds where the bytes of a string lie. -/
def Held (W : World) (B : Nat) (s : ByteArray) : Prop := ∀ j, j < s.size → W.cell? ⟨B, j, none⟩ = some (.int .u8 (bt s j))

theorem bt_data (s : ByteArray) (j : Nat) : ((s.data.toList.getD j 0).toNat : Int) = bt s j := by
  rw [← rd_bytesOf]
  unfold rd bytesOf
  simp only [Int.toNat_natCast, List.getD_eq_getElem?_getD, List.getElem?_map]
  cases s.data.toList[j]? <;> rfl

theorem sub_string (W : World) (B lo m c : Nat) (s : ByteArray) (hs : s.size ≤ 1000) (h : lo + m ≤ s.size) (H : Held W B s) :
    (convert 35 9 (.slice (some ⟨B, lo, none⟩) m c)).run Try.prog W = .ok (.string (s.extract lo (lo + m))) W := by
  have hl := nums_len s lo m h
  have hC : Kd.C (Kd.int .u8) W (some ⟨B, lo, none⟩) m (nums s lo m) := by
    have := cells_C W B lo (nums s lo m) (by omega) ?_
    · rw [hl] at this; exact this
    · intro j p hj
      have hjm : j < m := by rw [← hl]; exact (List.getElem?_eq_some_iff.1 hj).1
      have h1 := H (lo + j) (by omega)
      rw [h1, ← bt_data]
      congr 2
      unfold nums at hj
      rw [List.getElem?_map, List.getElem?_take_of_lt hjm, List.getElem?_drop] at hj
      rw [List.getD_eq_getElem?_getD]
      cases he : s.data.toList[lo + j]? with
      | none => rw [he] at hj; cases hj
      | some u => rw [he] at hj; exact Option.some.inj hj
  rw [← nums_str]
  exact Kd.C_string Try.underlying35 Try.underlying5 Try.underlying9 hC

theorem conv_bytes (W : World) (s : ByteArray) (hs : s.size ≤ 1000) : ∃ cp W1, (convert 9 35 (.string s)).run Try.prog W = .ok (.slice (some ⟨W.heap.size, 0, none⟩) s.size cp) W1 ∧ s.size ≤ cp ∧
    Held W1 W.heap.size s ∧ Below W.heap.size W W1 ∧ W.heap.size < W1.heap.size := by
  refine ⟨grownCap W s.size 0 5, Lib.bytesWorld W 5 s, Lib.run_convert_string_bytes (P := Try.prog) W 9 35 5 s Try.underlying9 Try.underlying35 Try.underlying5, ?_, ?_, ?_, ?_⟩
  · exact grownCap_ge _ _ _ _
  · intro j hj
    rw [Lib.bytesWorld_cell W 5 s j hj, bt_data]
  · exact ⟨rfl, rfl, rfl, by rw [Lib.bytesWorld_size]; omega, fun k hk => Lib.bytesWorld_at_old W 5 s k hk⟩
  · rw [Lib.bytesWorld_size]; omega

/-- Six bytes as a number. -/
def num6 (s : ByteArray) (i : Int) : Int := bt s i * 1099511627776 + bt s (i + 1) * 4294967296 + bt s (i + 2) * 16777216 + bt s (i + 3) * 65536 + bt s (i + 4) * 256 + bt s (i + 5)

theorem or_byte (a b : Int) (h0 : 0 ≤ a) (h1 : a < 36028797018963968) (h2 : 0 ≤ b) (h3 : b ≤ 255) : Go.bits .or .i64 (wrap64 (a * 256)) (wrap64 b) = a * 256 + b := by
  have e1 : wrap64 (a * 256) = a * 256 := by unfold wrap64; omega
  have e2 : wrap64 b = b := by unfold wrap64; omega
  rw [e1, e2]
  exact bits_join .i64 63 (by decide) (fun n h₀ h₁ => by rw [IntKind.wrap_i64]; omega) 8 (a * 256) b (by omega) (by omega) (by omega) h2 (by omega) (by omega)

theorem Of_step (k : Nat) (s : ByteArray) (a i j : Int) (hj : j = i + 1) (h0 : 0 ≤ a) (h1 : a < 36028797018963968) (h2 : 0 ≤ i) (h3 : i < 6) (h4 : s.size = 6) : mac_Of.l0 (k + 1) s a i = mac_Of.l0 k s (a * 256 + bt s i) j := by
  subst hj
  have hb := bt_range s i
  have e : wrap64 (i + 1) = i + 1 := by unfold wrap64; omega
  rw [mac_Of.l0, if_pos h3, if_pos h2, if_pos (by omega), or_byte a _ h0 h1 hb.1 hb.2, e]

theorem Of_end (k : Nat) (s : ByteArray) (a : Int) : mac_Of.l0 (k + 1) s a 6 = some (a, 0) := by
  rw [mac_Of.l0, if_neg (by decide)]

theorem Of_num (k : Nat) (s : ByteArray) (h : s.size = 6) : mac_Of.f (k + 7) s = some (num6 s 0, 0) := by
  have b0 := bt_range s 0
  have b1 := bt_range s 1
  have b2 := bt_range s 2
  have b3 := bt_range s 3
  have b4 := bt_range s 4
  have b5 := bt_range s 5
  unfold mac_Of.f
  rw [if_neg (by omega), if_neg (by omega)]
  rw [Of_step (k + 6) s _ _ 1 rfl (by omega) (by omega) (by omega) (by omega) h]
  rw [Of_step (k + 5) s _ _ 2 rfl (by omega) (by omega) (by omega) (by omega) h]
  rw [Of_step (k + 4) s _ _ 3 rfl (by omega) (by omega) (by omega) (by omega) h]
  rw [Of_step (k + 3) s _ _ 4 rfl (by omega) (by omega) (by omega) (by omega) h]
  rw [Of_step (k + 2) s _ _ 5 rfl (by omega) (by omega) (by omega) (by omega) h]
  rw [Of_step (k + 1) s _ _ 6 rfl (by omega) (by omega) (by omega) (by omega) h]
  rw [Of_end]
  unfold num6
  congr 2
  simp only [Int.zero_add, show (1 : Int) + 1 = 2 from rfl, show (2 : Int) + 1 = 3 from rfl, show (3 : Int) + 1 = 4 from rfl, show (4 : Int) + 1 = 5 from rfl]
  omega

/-- The type of a frame. -/
def tnum (s : ByteArray) : Int := bt s 12 * 256 + bt s 13

theorem bt_extract (s : ByteArray) (lo m i : Nat) (h : lo + m ≤ s.size) (hi : i < m) : bt (s.extract lo (lo + m)) i = bt s (lo + i : Nat) := by
  rw [← bt_data, ← bt_data]
  congr 2
  simp only [List.getD_eq_getElem?_getD, ByteArray.data_extract, Array.toList_extract]
  congr 1
  rw [show s.data.toList.extract lo (lo + m) = (s.data.toList.drop lo).take m from by simp [List.extract_eq_take_drop]]
  rw [List.getElem?_take_of_lt hi, List.getElem?_drop]

theorem Of_sub (s : ByteArray) (lo : Nat) (h : lo + 6 ≤ s.size) : mac_Of.f 7 (s.extract lo (lo + 6)) = some (num6 s lo, 0) := by
  have hz : (s.extract lo (lo + 6)).size = 6 := by
    rw [ByteArray.size_extract]; omega
  rw [Of_num 0 _ hz]
  have e : ∀ i : Nat, i < 6 → bt (s.extract lo (lo + 6)) (i : Int) = bt s ((lo : Int) + i) := fun i hi => by
    rw [bt_extract s lo 6 i h hi]; congr 1
  have e0 : bt (s.extract lo (lo + 6)) 0 = bt s lo := by have := e 0 (by omega); simpa using this
  have e1 : bt (s.extract lo (lo + 6)) 1 = bt s (lo + 1) := e 1 (by omega)
  have e2 : bt (s.extract lo (lo + 6)) 2 = bt s (lo + 2) := e 2 (by omega)
  have e3 : bt (s.extract lo (lo + 6)) 3 = bt s (lo + 3) := e 3 (by omega)
  have e4 : bt (s.extract lo (lo + 6)) 4 = bt s (lo + 4) := e 4 (by omega)
  have e5 : bt (s.extract lo (lo + 6)) 5 = bt s (lo + 5) := e 5 (by omega)
  have g : num6 (s.extract lo (lo + 6)) 0 = num6 s lo := by
    unfold num6
    simp only [Int.zero_add]
    rw [e0, e1, e2, e3, e4, e5]
  rw [g]

set_option maxRecDepth 100000 in
set_option maxHeartbeats 2000000 in
theorem parse_mid (s : ByteArray) (r : Bool) (hr : frame_Right.f (num6 s 0) (num6 s 6) (tnum s) (s.extract 14 s.size) = some r) (w : World) (h0 : 14 ≤ s.size) (h1 : s.size ≤ 114) :
    Calls Try.prog 20 #[.string s] w fun e w' => e = .returned (if r = true then .tuple #[.agg #[.int .i64 (num6 s 0), .int .i64 (num6 s 6), .int .i64 (tnum s), .string (s.extract 14 s.size)], .int .i64 0] else .tuple #[.agg #[.int .i64 0, .int .i64 0, .int .i64 0, .string ⟨#[]⟩], .int .i64 10]) ∧ Below w.heap.size w w' := by
  have d0 : decide ((s.size : Int) < 14) = false := decide_eq_false (by omega)
  have d1 : decide (114 < (s.size : Int)) = false := decide_eq_false (by omega)
  have d2 : decide (s.size < 14) = false := decide_eq_false (by omega)
  have d3 : decide (114 < s.size) = false := decide_eq_false (by omega)
  obtain ⟨cp, W1, hcv, hcp, HC0, HB0, HZ⟩ := conv_bytes (w.alloc (.cells #[.int .i64 0, .int .i64 0, .int .i64 0, .string ⟨#[]⟩] 23)) s (by omega)
  rw [World.size_alloc] at hcv HC0
  have C := HC0
  have S1 := sub_string W1 (w.heap.size + 1) 0 6 6 s (by omega) (by omega) C
  have HB := Lib.hid HB0
  clear HC0 HB0
  go_enter Try.func20, Try.ntmps20
  go_wp2_with fail
  refine (mac_Of.calls 7 _ _ 0 _ (Of_sub s 0 (by omega))).mono ?_
  rintro e w' ⟨rfl, ⟨nd, rfl⟩⟩
  have S2 := sub_string (W1.drewN nd) (w.heap.size + 1) 6 6 6 s (by omega) (by omega) C
  go_wp2_with fail
  refine (mac_Of.calls 7 _ _ 0 _ (Of_sub s 6 (by omega))).mono ?_
  rintro e w' ⟨rfl, ⟨nd2, rfl⟩⟩
  have h12 : W1.cell? ⟨w.heap.size + 1, 12, none⟩ = some (.int .u8 (bt s 12)) := C 12 (by omega)
  have h13 : W1.cell? ⟨w.heap.size + 1, 13, none⟩ = some (.int .u8 (bt s 13)) := C 13 (by omega)
  have hlt : w.heap.size + 1 < W1.heap.size := by rw [World.size_alloc] at HZ; exact HZ
  have S3 : ∀ D, (convert 35 9 (.slice (some ⟨w.heap.size + 1, 14, none⟩) (s.size - 14) (cp - 14))).run Try.prog (W1.drewN D) = .ok (.string (s.extract 14 (14 + (s.size - 14)))) (W1.drewN D) := fun D => sub_string _ _ 14 _ _ s (by omega) (by omega) C
  have S4 : ∀ D o, (convert 35 9 (.slice (some ⟨w.heap.size + 1, 14, none⟩) (s.size - 14) (cp - 14))).run Try.prog ((W1.drewN D).alloc o) = .ok (.string (s.extract 14 (14 + (s.size - 14)))) ((W1.drewN D).alloc o) := fun D o => sub_string _ _ 14 _ _ s (by omega) (by omega) (fun j hj => (World.cell?_alloc_past _ _ _ hlt).trans (C j hj))
  have l14 : (14 : Int) ≤ (s.size : Int) := by omega
  have l12 : (12 : Int) < (s.size : Int) := by omega
  have l13 : (13 : Int) < (s.size : Int) := by omega
  go_wp2_with fail
  have hB1 : ∀ D c t i, ((W1.drewN D).alloc (.cells c t)).cell? ⟨W1.heap.size, i, none⟩ = c[i]? := fun D c t i => World.cell?_alloc_at c t _ i rfl
  have hB2 : ∀ D c t i, ((W1.drewN D).alloc (.cells c t)).frozen? ⟨W1.heap.size, i, none⟩ = false := fun D c t i => World.frozen?_alloc_at c t _ i rfl
  have hB3 : ∀ D o i, ((W1.drewN D).alloc o).cell? ⟨w.heap.size + 1, i, none⟩ = W1.cell? ⟨w.heap.size + 1, i, none⟩ := fun D o i => World.cell?_alloc_past (w := W1.drewN D) o _ i hlt
  have hB4 : ∀ D c t i v, ((W1.drewN D).alloc (.cells c t)).setCell ⟨W1.heap.size, i, none⟩ v = (W1.drewN D).alloc (.cells (c.setIfInBounds i v) t) := fun D c t i v => World.setCell_alloc_at c t _ i v rfl
  have ew : bits .or .i64 (wrap64 (wrap64 (bt s 12) * 256)) (wrap64 (bt s 13)) = tnum s := by
    have b0 := bt_range s 12
    have b1 := bt_range s 13
    have e2 : wrap64 (bt s 12) = bt s 12 := by unfold wrap64; omega
    rw [e2, or_byte _ _ (by omega) (by omega) b1.1 b1.2]; rfl
  have hX0 : ∀ D c, ((W1.drewN D).alloc (.cells c 23)).heap.size = W1.heap.size + 1 := fun D c => by rw [World.size_alloc]; rfl
  have hZ : ∀ D c j, ((W1.drewN D).alloc (.cells c 23)).cell? ⟨w.heap.size, j, none⟩ = W1.cell? ⟨w.heap.size, j, none⟩ := fun D c j => World.cell?_alloc_past (w := W1.drewN D) _ _ j (by show _ < W1.heap.size; omega)
  have hZf : ∀ D c j, ((W1.drewN D).alloc (.cells c 23)).frozen? ⟨w.heap.size, j, none⟩ = W1.frozen? ⟨w.heap.size, j, none⟩ := fun D c j => World.frozen?_alloc_past (w := W1.drewN D) _ _ j (by show _ < W1.heap.size; omega)
  have hl0 : w.heap.size < (w.alloc (.cells #[.int .i64 0, .int .i64 0, .int .i64 0, .string ⟨#[]⟩] 23)).heap.size := by rw [World.size_alloc]; omega
  have hlt' : w.heap.size < W1.heap.size + 1 := by omega
  by_cases hc14 : cp = 14
  · have hx : s.extract 0 0 = s.extract 14 s.size := by
      have h' : s.size = 14 := by omega
      apply ByteArray.ext
      apply Array.toList_inj.1
      simp [ByteArray.data_extract, h']
    have S3 : ∀ D, (convert 35 9 (.slice (some ⟨w.heap.size + 1, 0, none⟩) 0 0)).run Try.prog (W1.drewN D) = .ok (.string (s.extract 14 s.size)) (W1.drewN D) := fun D => by
      rw [← hx]; exact sub_string (W1.drewN D) (w.heap.size + 1) 0 0 0 s (by omega) (by omega) C
    have S4 : ∀ D o, (convert 35 9 (.slice (some ⟨w.heap.size + 1, 0, none⟩) 0 0)).run Try.prog ((W1.drewN D).alloc o) = .ok (.string (s.extract 14 s.size)) ((W1.drewN D).alloc o) := fun D o => by
      rw [← hx]; exact sub_string ((W1.drewN D).alloc o) (w.heap.size + 1) 0 0 0 s (by omega) (by omega) (fun j hj => (World.cell?_alloc_past _ _ _ hlt).trans (C j hj))
    subst hc14
    go_region
    all_goals go_wp2_with fail
    refine (frame_Right.calls _ _ _ _ r _ hr).mono ?_
    rintro e w' ⟨rfl, hb⟩
    have q0 : w'.cell? ⟨W1.heap.size, 0, none⟩ = some (.int .i64 (num6 s 0)) := (hb.cell (by rw [hX0]; exact Nat.lt_succ_self _)).trans (hB1 _ _ _ 0)
    have q1 : w'.cell? ⟨W1.heap.size, 1, none⟩ = some (.int .i64 (num6 s 6)) := (hb.cell (by rw [hX0]; exact Nat.lt_succ_self _)).trans (hB1 _ _ _ 1)
    have q2 : w'.cell? ⟨W1.heap.size, 2, none⟩ = some (.int .i64 (tnum s)) := (hb.cell (by rw [hX0]; exact Nat.lt_succ_self _)).trans (hB1 _ _ _ 2)
    have q3 : w'.cell? ⟨W1.heap.size, 3, none⟩ = some (.string (s.extract 14 s.size)) := (hb.cell (by rw [hX0]; exact Nat.lt_succ_self _)).trans (hB1 _ _ _ 3)
    have z0 := (hb.cell (p := ⟨w.heap.size, 0, none⟩) (by rw [hX0]; exact hlt')).trans ((hZ _ _ 0).trans (HB.out.cell (p := ⟨w.heap.size, 0, none⟩) hl0))
    have z1 := (hb.cell (p := ⟨w.heap.size, 1, none⟩) (by rw [hX0]; exact hlt')).trans ((hZ _ _ 1).trans (HB.out.cell (p := ⟨w.heap.size, 1, none⟩) hl0))
    have z2 := (hb.cell (p := ⟨w.heap.size, 2, none⟩) (by rw [hX0]; exact hlt')).trans ((hZ _ _ 2).trans (HB.out.cell (p := ⟨w.heap.size, 2, none⟩) hl0))
    have z3 := (hb.cell (p := ⟨w.heap.size, 3, none⟩) (by rw [hX0]; exact hlt')).trans ((hZ _ _ 3).trans (HB.out.cell (p := ⟨w.heap.size, 3, none⟩) hl0))
    have f0 := (hb.frozen (p := ⟨w.heap.size, 0, none⟩) (by rw [hX0]; exact hlt')).trans ((hZf _ _ 0).trans (HB.out.frozen (p := ⟨w.heap.size, 0, none⟩) hl0))
    have f1 := (hb.frozen (p := ⟨w.heap.size, 1, none⟩) (by rw [hX0]; exact hlt')).trans ((hZf _ _ 1).trans (HB.out.frozen (p := ⟨w.heap.size, 1, none⟩) hl0))
    have f2 := (hb.frozen (p := ⟨w.heap.size, 2, none⟩) (by rw [hX0]; exact hlt')).trans ((hZf _ _ 2).trans (HB.out.frozen (p := ⟨w.heap.size, 2, none⟩) hl0))
    have f3 := (hb.frozen (p := ⟨w.heap.size, 3, none⟩) (by rw [hX0]; exact hlt')).trans ((hZf _ _ 3).trans (HB.out.frozen (p := ⟨w.heap.size, 3, none⟩) hl0))
    rw [World.cell?_alloc_at _ _ _ _ rfl] at z0 z1 z2 z3
    rw [World.frozen?_alloc_at _ _ _ _ rfl] at f0 f1 f2 f3
    simp only [List.getElem?_toArray, List.getElem?_cons_zero, List.getElem?_cons_succ] at z0 z1 z2 z3
    have BK : w'.heap[w.heap.size]? = some (.cells #[.int .i64 0, .int .i64 0, .int .i64 0, .string ⟨#[]⟩] 23) := blk_below (blk_alloc (blk_drewN (blk_below (blk_new w _) HB.out) _) _) hb
    have HF : Below w.heap.size w w' := below_step (below_alloc (pw_below_drewN (below_step ((Below.refl w.heap.size w).alloc (Nat.le_refl _) _) HB.out) _) _) hb
    clear hb hB1 hB2 hB3 hB4 hX0 hZ hZf S3 S4 HB hcv
    cases r
    · go_wp2_with fail
      refine bodyPost_ret (results_ct rfl _ _ w.heap.size 23 #[.int .i64 0, .int .i64 0, .int .i64 0, .string (⟨#[]⟩ : ByteArray)] (0, 0) _ rfl (by exact blk_set (blk_set (blk_set (blk_set BK 0 _) 1 _) 2 _) 3 _) Try.underlying23 rfl (by kernel_rfl)) rfl ?_
      exact ⟨rfl, by repeat (first | (with_reducible first | exact HF | apply below_alloc | apply pw_below_drewN | apply below_drew1 | refine below_set ?_ (Nat.le_refl _)) | exact HF)⟩
    · go_wp2_with fail
      refine bodyPost_ret (results_ct rfl _ _ w.heap.size 23 #[.int .i64 (num6 s 0), .int .i64 (num6 s 6), .int .i64 (tnum s), .string (s.extract 14 s.size)] (0, 0) _ rfl (by exact blk_set (blk_set (blk_set (blk_set BK 0 _) 1 _) 2 _) 3 _) Try.underlying23 rfl (by kernel_rfl)) rfl ?_
      exact ⟨rfl, by repeat (first | (with_reducible first | exact HF | apply below_alloc | apply pw_below_drewN | apply below_drew1 | refine below_set ?_ (Nat.le_refl _)) | exact HF)⟩
  · go_region
    all_goals go_wp2_with fail
    refine (frame_Right.calls _ _ _ _ r _ hr).mono ?_
    rintro e w' ⟨rfl, hb⟩
    have q0 : w'.cell? ⟨W1.heap.size, 0, none⟩ = some (.int .i64 (num6 s 0)) := (hb.cell (by rw [hX0]; exact Nat.lt_succ_self _)).trans (hB1 _ _ _ 0)
    have q1 : w'.cell? ⟨W1.heap.size, 1, none⟩ = some (.int .i64 (num6 s 6)) := (hb.cell (by rw [hX0]; exact Nat.lt_succ_self _)).trans (hB1 _ _ _ 1)
    have q2 : w'.cell? ⟨W1.heap.size, 2, none⟩ = some (.int .i64 (tnum s)) := (hb.cell (by rw [hX0]; exact Nat.lt_succ_self _)).trans (hB1 _ _ _ 2)
    have q3 : w'.cell? ⟨W1.heap.size, 3, none⟩ = some (.string (s.extract 14 s.size)) := (hb.cell (by rw [hX0]; exact Nat.lt_succ_self _)).trans (hB1 _ _ _ 3)
    have z0 := (hb.cell (p := ⟨w.heap.size, 0, none⟩) (by rw [hX0]; exact hlt')).trans ((hZ _ _ 0).trans (HB.out.cell (p := ⟨w.heap.size, 0, none⟩) hl0))
    have z1 := (hb.cell (p := ⟨w.heap.size, 1, none⟩) (by rw [hX0]; exact hlt')).trans ((hZ _ _ 1).trans (HB.out.cell (p := ⟨w.heap.size, 1, none⟩) hl0))
    have z2 := (hb.cell (p := ⟨w.heap.size, 2, none⟩) (by rw [hX0]; exact hlt')).trans ((hZ _ _ 2).trans (HB.out.cell (p := ⟨w.heap.size, 2, none⟩) hl0))
    have z3 := (hb.cell (p := ⟨w.heap.size, 3, none⟩) (by rw [hX0]; exact hlt')).trans ((hZ _ _ 3).trans (HB.out.cell (p := ⟨w.heap.size, 3, none⟩) hl0))
    have f0 := (hb.frozen (p := ⟨w.heap.size, 0, none⟩) (by rw [hX0]; exact hlt')).trans ((hZf _ _ 0).trans (HB.out.frozen (p := ⟨w.heap.size, 0, none⟩) hl0))
    have f1 := (hb.frozen (p := ⟨w.heap.size, 1, none⟩) (by rw [hX0]; exact hlt')).trans ((hZf _ _ 1).trans (HB.out.frozen (p := ⟨w.heap.size, 1, none⟩) hl0))
    have f2 := (hb.frozen (p := ⟨w.heap.size, 2, none⟩) (by rw [hX0]; exact hlt')).trans ((hZf _ _ 2).trans (HB.out.frozen (p := ⟨w.heap.size, 2, none⟩) hl0))
    have f3 := (hb.frozen (p := ⟨w.heap.size, 3, none⟩) (by rw [hX0]; exact hlt')).trans ((hZf _ _ 3).trans (HB.out.frozen (p := ⟨w.heap.size, 3, none⟩) hl0))
    rw [World.cell?_alloc_at _ _ _ _ rfl] at z0 z1 z2 z3
    rw [World.frozen?_alloc_at _ _ _ _ rfl] at f0 f1 f2 f3
    simp only [List.getElem?_toArray, List.getElem?_cons_zero, List.getElem?_cons_succ] at z0 z1 z2 z3
    have BK : w'.heap[w.heap.size]? = some (.cells #[.int .i64 0, .int .i64 0, .int .i64 0, .string ⟨#[]⟩] 23) := blk_below (blk_alloc (blk_drewN (blk_below (blk_new w _) HB.out) _) _) hb
    have HF : Below w.heap.size w w' := below_step (below_alloc (pw_below_drewN (below_step ((Below.refl w.heap.size w).alloc (Nat.le_refl _) _) HB.out) _) _) hb
    clear hb hB1 hB2 hB3 hB4 hX0 hZ hZf S3 S4 HB hcv
    cases r
    · go_wp2_with fail
      refine bodyPost_ret (results_ct rfl _ _ w.heap.size 23 #[.int .i64 0, .int .i64 0, .int .i64 0, .string (⟨#[]⟩ : ByteArray)] (0, 0) _ rfl (by exact blk_set (blk_set (blk_set (blk_set BK 0 _) 1 _) 2 _) 3 _) Try.underlying23 rfl (by kernel_rfl)) rfl ?_
      exact ⟨rfl, by repeat (first | (with_reducible first | exact HF | apply below_alloc | apply pw_below_drewN | apply below_drew1 | refine below_set ?_ (Nat.le_refl _)) | exact HF)⟩
    · go_wp2_with fail
      refine bodyPost_ret (results_ct rfl _ _ w.heap.size 23 #[.int .i64 (num6 s 0), .int .i64 (num6 s 6), .int .i64 (tnum s), .string (s.extract 14 s.size)] (0, 0) _ rfl (by exact blk_set (blk_set (blk_set (blk_set BK 0 _) 1 _) 2 _) 3 _) Try.underlying23 rfl (by kernel_rfl)) rfl ?_
      exact ⟨rfl, by repeat (first | (with_reducible first | exact HF | apply below_alloc | apply pw_below_drewN | apply below_drew1 | refine below_set ?_ (Nat.le_refl _)) | exact HF)⟩

theorem parse_short (s : ByteArray) (w : World) (h : s.size < 14) :
    Calls Try.prog 20 #[.string s] w fun e w' => e = .returned (.tuple #[.agg #[.int .i64 0, .int .i64 0, .int .i64 0, .string ⟨#[]⟩], .int .i64 7]) ∧ Below w.heap.size w w' := by
  have d0 : decide ((s.size : Int) < 14) = true := decide_eq_true (by omega)
  have d2 : decide (s.size < 14) = true := decide_eq_true (by omega)
  go_enter Try.func20, Try.ntmps20
  go_wp2
  refine bodyPost_ret (results_ct rfl _ _ w.heap.size 23 #[.int .i64 0, .int .i64 0, .int .i64 0, .string (⟨#[]⟩ : ByteArray)] (0, 0) _ rfl (by exact blk_new w _) Try.underlying23 rfl (by kernel_rfl)) rfl ?_
  have HF := Below.refl w.heap.size w
  exact ⟨rfl, by repeat (first | (with_reducible first | exact HF | apply below_alloc | apply pw_below_drewN | apply below_drew1 | refine below_set ?_ (Nat.le_refl _)) | exact HF)⟩

theorem parse_long (s : ByteArray) (w : World) (h : 114 < s.size) :
    Calls Try.prog 20 #[.string s] w fun e w' => e = .returned (.tuple #[.agg #[.int .i64 0, .int .i64 0, .int .i64 0, .string ⟨#[]⟩], .int .i64 8]) ∧ Below w.heap.size w w' := by
  have d0 : decide ((s.size : Int) < 14) = false := decide_eq_false (by omega)
  have d1 : decide (114 < (s.size : Int)) = true := decide_eq_true (by omega)
  have d2 : decide (s.size < 14) = false := decide_eq_false (by omega)
  have d3 : decide (114 < s.size) = true := decide_eq_true (by omega)
  go_enter Try.func20, Try.ntmps20
  go_wp2
  refine bodyPost_ret (results_ct rfl _ _ w.heap.size 23 #[.int .i64 0, .int .i64 0, .int .i64 0, .string (⟨#[]⟩ : ByteArray)] (0, 0) _ rfl (by exact blk_new w _) Try.underlying23 rfl (by kernel_rfl)) rfl ?_
  have HF := Below.refl w.heap.size w
  exact ⟨rfl, by repeat (first | (with_reducible first | exact HF | apply below_alloc | apply pw_below_drewN | apply below_drew1 | refine below_set ?_ (Nat.le_refl _)) | exact HF)⟩

def frame_Parse.f (a0 : ByteArray) : Option (Int × Int × Int × ByteArray × Int) :=
  if a0.size < 14 then some (0, 0, 0, (⟨#[]⟩ : ByteArray), 7) else (if 114 < a0.size then some (0, 0, 0, (⟨#[]⟩ : ByteArray), 8) else
    ((frame_Right.f (num6 a0 0) (num6 a0 6) (tnum a0) (a0.extract 14 a0.size)).bind fun r => if r = true then some (num6 a0 0, num6 a0 6, tnum a0, a0.extract 14 a0.size, 0) else some (0, 0, 0, (⟨#[]⟩ : ByteArray), 10)))

theorem frame_Parse.calls (a0 : ByteArray) (r1 r2 r3 : Int) (r4 : ByteArray) (r5 : Int) (w : World) (h : frame_Parse.f a0 = some (r1, r2, r3, r4, r5)) :
    Calls Try.prog 20 #[.string a0] w fun e w' => e = .returned (.tuple #[.agg #[.int .i64 r1, .int .i64 r2, .int .i64 r3, .string r4], .int .i64 r5]) ∧ Below w.heap.size w w' := by
  unfold frame_Parse.f at h
  split at h
  · rename_i hc
    simp only [Option.some.injEq, Prod.mk.injEq] at h
    obtain ⟨rfl, rfl, rfl, rfl, rfl⟩ := h
    exact parse_short a0 w hc
  · split at h
    · rename_i hc
      simp only [Option.some.injEq, Prod.mk.injEq] at h
      obtain ⟨rfl, rfl, rfl, rfl, rfl⟩ := h
      exact parse_long a0 w hc
    · rename_i h1 h2
      obtain ⟨r, hr, h⟩ := Option.bind_eq_some_iff.mp h
      have := parse_mid a0 r hr w (by omega) (by omega)
      cases r <;> simp only [if_true, Bool.false_eq_true, if_false, Option.some.injEq, Prod.mk.injEq] at h <;> obtain ⟨rfl, rfl, rfl, rfl, rfl⟩ := h <;> exact this

def mac_Bytes.f (a0 : Int) : Option (ByteArray × Int) := if 0 ≤ a0 ∧ a0 ≤ 281474976710655 then some (strOfNums (EMac.b6 a0), 0) else some ((⟨#[]⟩ : ByteArray), 1)

theorem mac_Bytes.calls (a0 : Int) (r1 : ByteArray) (r2 : Int) (w : World) (h : mac_Bytes.f a0 = some (r1, r2)) :
    Calls Try.prog 33 #[.int .i64 a0] w fun e w' => e = .returned (.tuple #[.string r1, .int .i64 r2]) ∧ Below w.heap.size w w' := by
  unfold mac_Bytes.f at h
  split at h
  · rename_i hc
    simp only [Option.some.injEq, Prod.mk.injEq] at h
    obtain ⟨rfl, rfl⟩ := h
    exact EMac.bytes_yes a0 w hc.1 hc.2
  · rename_i hc
    simp only [Option.some.injEq, Prod.mk.injEq] at h
    obtain ⟨rfl, rfl⟩ := h
    exact EMac.bytes_no a0 w hc
end Go.Proofs.Ytnikfjfcbpeieaa.EFrame
