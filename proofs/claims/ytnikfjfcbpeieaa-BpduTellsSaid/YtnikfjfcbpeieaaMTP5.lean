/- Parts, joined for the claim. -/
import Derived.Test.YtnikfjfcbpeieaaMTW
import Derived.Test.YtnikfjfcbpeieaaMTQq
import Derived.Test.YtnikfjfcbpeieaaMTTa
import Derived.Test.YtnikfjfcbpeieaaMTTe
import Derived.Test.YtnikfjfcbpeieaaMTTf
import Derived.Test.YtnikfjfcbpeieaaMTTc
import Derived.Test.YtnikfjfcbpeieaaMTP4
section
namespace Go.Proofs.Ytnikfjfcbpeieaa.PBp
open Go.RowKit Go.Proofs.YtnikfjfcbpeieaaW.PrintWords Go.Proofs.YtnikfjfcbpeieaaW.PrintLast Go.Proofs.YtnikfjfcbpeieaaW.PrintMore
attribute [local go_sem] max2_int min2_int max_two min_two max_three min_three max_four min_four   -- for this text's walks alone
set_option linter.unusedVariables false
set_option linter.unusedSimpArgs false
def footwayref03_Parse.f (k : Nat) (a0 : ByteArray) : Option (Int × Int × Int × Int × Int × Int) := if (a0.size : Int) < 12 then (some (0, 0, 0, 0, 0, 7)) else (if (a0.size : Int) > 12 then (some (0, 0, 0, 0, 0, 8)) else ((footwayref03_sum.f k a0).bind fun t151 => (if t151 = 0 then (if 1 ≤ 3 then (if 3 ≤ (a0.size : Int) then ((footwayref03_read.f k (a0.extract 1 3)).bind fun t152 => (if 3 ≤ 7 then (if 7 ≤ (a0.size : Int) then ((footwayref03_read.f k (a0.extract 3 7)).bind fun t153 => (if 7 ≤ 9 then (if 9 ≤ (a0.size : Int) then ((footwayref03_read.f k (a0.extract 7 9)).bind fun t154 => (if 9 ≤ 10 then (if 10 ≤ (a0.size : Int) then ((footwayref03_read.f k (a0.extract 9 10)).bind fun t155 => (if 10 ≤ 11 then (if 11 ≤ (a0.size : Int) then ((footwayref03_read.f k (a0.extract 10 11)).bind fun t156 => (if 0 < (a0.size : Int) then (if (bt a0 0) = 0 then ((footwayref03_Right.f t152 t153 t154 t155 t156).bind fun t158 => (if t158 = true then (some (t152, t153, t154, t155, t156, 0)) else (some (0, 0, 0, 0, 0, 10)))) else (some (0, 0, 0, 0, 0, 10))) else (none))) else (none)) else (none))) else (none)) else (none))) else (none)) else (none))) else (none)) else (none))) else (none)) else (none)) else (some (0, 0, 0, 0, 0, 9)))))
theorem footwayref03_Parse.mono : ∀ a0 k, LeO (footwayref03_Parse.f k a0) (footwayref03_Parse.f (k + 1) a0) := by
 intro a0 k
 unfold footwayref03_Parse.f
 repeat' first
   | (with_reducible exact footwayref03_read.mono _ _)
   | (with_reducible exact footwayref03_sum.mono _ _)
   | (with_reducible exact LeO.refl _)
   | (with_reducible exact LeO.none _)
   | (with_reducible refine LeO.ite ?_ ?_)
   | (with_reducible refine LeO.bind ?_ (fun _ => ?_))
   | exact footwayref03_read.mono _ _
   | exact footwayref03_sum.mono _ _
   | exact LeO.none _
   | refine LeO.ite ?_ ?_
   | refine LeO.bind ?_ (fun _ => ?_)
def footwayref03_Parse.T7 : Bool × List (List Nat × List Nat) := (true, [([], []), ([0], [0]), ([1], [1]), ([], []), ([3], [3]), ([4, 2], [4]), ([], []), ([6], [6]), ([7, 5], [7]), ([], []), ([9], [9]), ([10, 8], [10]), ([2, 5, 8, 11], [2, 5, 8, 11]), ([], []), ([13], [13]), ([14, 11], [14]), ([12, 15], [12, 15]), ([], []), ([17, 16, 15, 0, 1, 2, 3, 4, 5, 6, 7, 8, 9, 10, 11, 12, 13, 14, 15, 16, 17], [16, 17])])
def footwayref03_Parse.B7 : List Nat := [0, 1, 3, 0, 8, 31, 0, 64, 255, 0, 512, 2047, 4095, 0, 8192, 28671, 65535, 0, 262143]
theorem footwayref03_Parse.tab7 : rtab .any (opsOf Try.f56 7) = footwayref03_Parse.T7 := by kernel_rfl
theorem footwayref03_Parse.bits7 : waitsOk footwayref03_Parse.T7.2 footwayref03_Parse.B7 = true := by kernel_rfl
set_option maxHeartbeats 8000000 in
set_option maxRecDepth 100000 in
theorem footwayref03_Parse.calls (k : Nat) (a0 : ByteArray) (r1 : Int) (r2 : Int) (r3 : Int) (r4 : Int) (r5 : Int) (r6 : Int) (w : World) (h : footwayref03_Parse.f k a0 = some (r1, r2, r3, r4, r5, r6)) :
  Calls Tq.prog 56 #[.string a0] w fun e w' => e = .returned (.tuple #[.agg #[.int .i64 r1, .int .i64 r2, .int .i64 r3, .int .i64 r4, .int .i64 r5], .int .i64 r6]) ∧ Below w.heap.size w w' := by
 have hu52 := Tq.underlying52
 have hu50 := Tq.underlying50
 have HB := Aside0.mk (Below.refl w.heap.size w)
 have H := h
 unfold footwayref03_Parse.f at H
 clear h
 by_cases c2 : (a0.size : Int) < 12
 ·rw [if_pos c2] at H
  have c2b0 : decide ((a0.size : Int) < 12) = true := decide_eq_true c2
  have c2b1 : decide (a0.size < 12) = true := decide_eq_true (by omega)
  clear c2
  simp only [Option.some.injEq, Prod.mk.injEq] at H
  obtain ⟨rfl, rfl, rfl, rfl, rfl, rfl⟩ := H
  go_enter Tq.func56, Try.ntmps56
  go_wp2_with (first | ((with_reducible refine gate_dst (N := 2) rfl ?_); refine box_event ?hg (N := 2) ?hd (cs := #[.int .i64 0, .int .i64 0, .int .i64 0, .int .i64 0, .int .i64 0]) (t := 52) ?hr ?_; (case hd => rfl); (case hg => rfl); (case hr => first | (go_simp; done) | (go_simp; rfl)); intro gb150 hg w3 hbox hb; have BK150 := Aside0.mk (hbox); have GW150 := Aside0.mk ((by rw [hg]; exact (below_size (by exact bw HB.out)) : w.heap.size ≤ gb150)); have GE150 := Aside0.mk ((by rw [hg]; exact (below_size (by exact bw HB.out)) : w.heap.size ≤ gb150)); replace HB := Aside0.mk (below_step (by exact bw HB.out) hb); clear hb hbox hg; obtain ⟨hcz4_0, hcz4_1, hcz4_2, hcz4_3, hcz4_4, hfz4_0, hfz4_1, hfz4_2, hfz4_3, hfz4_4⟩ := cs5 BK150.out))
  refine bodyPost_ret (results_ct rfl _ _ gb150 52 #[.int .i64 0, .int .i64 0, .int .i64 0, .int .i64 0, .int .i64 0] (0, 0) _ rfl (by exact bk BK150.out rfl) Tq.underlying52 rfl (by kernel_rfl)) rfl ?_
  exact ⟨by first | rfl | (simp [errW_none, errW_some] <;> rfl) | (simp [*, errW_none, errW_some] <;> rfl), by exact bw HB.out⟩
 ·rw [if_neg c2] at H
  have c2b0 : decide ((a0.size : Int) < 12) = false := decide_eq_false c2
  have c2b1 : decide (a0.size < 12) = false := decide_eq_false (by omega)
  clear c2
  by_cases c5 : (a0.size : Int) > 12
  ·rw [if_pos c5] at H
   have c5b0 : decide (12 < (a0.size : Int)) = true := decide_eq_true c5
   have c5b1 : decide (12 < a0.size) = true := decide_eq_true (by omega)
   clear c5
   simp only [Option.some.injEq, Prod.mk.injEq] at H
   obtain ⟨rfl, rfl, rfl, rfl, rfl, rfl⟩ := H
   go_enter Tq.func56, Try.ntmps56
   go_wp2_with (first | ((with_reducible refine gate_dst (N := 2) rfl ?_); refine box_event ?hg (N := 2) ?hd (cs := #[.int .i64 0, .int .i64 0, .int .i64 0, .int .i64 0, .int .i64 0]) (t := 52) ?hr ?_; (case hd => rfl); (case hg => rfl); (case hr => first | (go_simp; done) | (go_simp; rfl)); intro gb150 hg w6 hbox hb; have BK150 := Aside0.mk (hbox); have GW150 := Aside0.mk ((by rw [hg]; exact (below_size (by exact bw HB.out)) : w.heap.size ≤ gb150)); have GE150 := Aside0.mk ((by rw [hg]; exact (below_size (by exact bw HB.out)) : w.heap.size ≤ gb150)); replace HB := Aside0.mk (below_step (by exact bw HB.out) hb); clear hb hbox hg; obtain ⟨hcz7_0, hcz7_1, hcz7_2, hcz7_3, hcz7_4, hfz7_0, hfz7_1, hfz7_2, hfz7_3, hfz7_4⟩ := cs5 BK150.out))
   refine bodyPost_ret (results_ct rfl _ _ gb150 52 #[.int .i64 0, .int .i64 0, .int .i64 0, .int .i64 0, .int .i64 0] (0, 0) _ rfl (by exact bk BK150.out rfl) Tq.underlying52 rfl (by kernel_rfl)) rfl ?_
   exact ⟨by first | rfl | (simp [errW_none, errW_some] <;> rfl) | (simp [*, errW_none, errW_some] <;> rfl), by exact bw HB.out⟩
  ·rw [if_neg c5] at H
   have c5b0 : decide (12 < (a0.size : Int)) = false := decide_eq_false c5
   have c5b1 : decide (12 < a0.size) = false := decide_eq_false (by omega)
   clear c5
   replace H := Option.bind_eq_some_iff.mp H
   obtain ⟨t151, A80, H⟩ := H
   try dsimp only at H
   have A8 := Aside0.mk A80
   clear A80
   by_cases c9 : t151 = 0
   ·rw [if_pos c9] at H
    have c9b0 : (t151 == 0) = true := beq_iff_eq.mpr c9
    have c9b1 : (t151 != 0) = false := bne_eq_false_iff_eq.mpr c9
    clear c9
    refine dite (1 ≤ 3) (fun c10 => ?c10p) (fun c10 => ?c10n)
    case' c10n =>
     rw [if_neg c10] at H
     exact absurd H (by simp)
    case' c10p =>
     rw [if_pos c10] at H
     have c10b0 := eq_true c10
     have c10b1 : decide (1 ≤ 3) = true := decide_eq_true c10
     clear c10
     refine dite (3 ≤ (a0.size : Int)) (fun c11 => ?c11p) (fun c11 => ?c11n)
     case' c11n =>
      rw [if_neg c11] at H
      exact absurd H (by simp)
     case' c11p =>
      rw [if_pos c11] at H
      have c11b0 := eq_true c11
      have c11b1 : decide (3 ≤ (a0.size : Int)) = true := decide_eq_true c11
      clear c11
      replace H := Option.bind_eq_some_iff.mp H
      obtain ⟨t152, A120, H⟩ := H
      try dsimp only at H
      have A12 := Aside0.mk A120
      clear A120
      refine dite (3 ≤ 7) (fun c13 => ?c13p) (fun c13 => ?c13n)
      case' c13n =>
       rw [if_neg c13] at H
       exact absurd H (by simp)
      case' c13p =>
       rw [if_pos c13] at H
       have c13b0 := eq_true c13
       have c13b1 : decide (3 ≤ 7) = true := decide_eq_true c13
       clear c13
       refine dite (7 ≤ (a0.size : Int)) (fun c14 => ?c14p) (fun c14 => ?c14n)
       case' c14n =>
        rw [if_neg c14] at H
        exact absurd H (by simp)
       case' c14p =>
        rw [if_pos c14] at H
        have c14b0 := eq_true c14
        have c14b1 : decide (7 ≤ (a0.size : Int)) = true := decide_eq_true c14
        clear c14
        replace H := Option.bind_eq_some_iff.mp H
        obtain ⟨t153, A150, H⟩ := H
        try dsimp only at H
        have A15 := Aside0.mk A150
        clear A150
        refine dite (7 ≤ 9) (fun c16 => ?c16p) (fun c16 => ?c16n)
        case' c16n =>
         rw [if_neg c16] at H
         exact absurd H (by simp)
        case' c16p =>
         rw [if_pos c16] at H
         have c16b0 := eq_true c16
         have c16b1 : decide (7 ≤ 9) = true := decide_eq_true c16
         clear c16
         refine dite (9 ≤ (a0.size : Int)) (fun c17 => ?c17p) (fun c17 => ?c17n)
         case' c17n =>
          rw [if_neg c17] at H
          exact absurd H (by simp)
         case' c17p =>
          rw [if_pos c17] at H
          have c17b0 := eq_true c17
          have c17b1 : decide (9 ≤ (a0.size : Int)) = true := decide_eq_true c17
          clear c17
          replace H := Option.bind_eq_some_iff.mp H
          obtain ⟨t154, A180, H⟩ := H
          try dsimp only at H
          have A18 := Aside0.mk A180
          clear A180
          refine dite (9 ≤ 10) (fun c19 => ?c19p) (fun c19 => ?c19n)
          case' c19n =>
           rw [if_neg c19] at H
           exact absurd H (by simp)
          case' c19p =>
           rw [if_pos c19] at H
           have c19b0 := eq_true c19
           have c19b1 : decide (9 ≤ 10) = true := decide_eq_true c19
           clear c19
           refine dite (10 ≤ (a0.size : Int)) (fun c20 => ?c20p) (fun c20 => ?c20n)
           case' c20n =>
            rw [if_neg c20] at H
            exact absurd H (by simp)
           case' c20p =>
            rw [if_pos c20] at H
            have c20b0 := eq_true c20
            have c20b1 : decide (10 ≤ (a0.size : Int)) = true := decide_eq_true c20
            clear c20
            replace H := Option.bind_eq_some_iff.mp H
            obtain ⟨t155, A210, H⟩ := H
            try dsimp only at H
            have A21 := Aside0.mk A210
            clear A210
            refine dite (10 ≤ 11) (fun c22 => ?c22p) (fun c22 => ?c22n)
            case' c22n =>
             rw [if_neg c22] at H
             exact absurd H (by simp)
            case' c22p =>
             rw [if_pos c22] at H
             have c22b0 := eq_true c22
             have c22b1 : decide (10 ≤ 11) = true := decide_eq_true c22
             clear c22
             refine dite (11 ≤ (a0.size : Int)) (fun c23 => ?c23p) (fun c23 => ?c23n)
             case' c23n =>
              rw [if_neg c23] at H
              exact absurd H (by simp)
             case' c23p =>
              rw [if_pos c23] at H
              have c23b0 := eq_true c23
              have c23b1 : decide (11 ≤ (a0.size : Int)) = true := decide_eq_true c23
              clear c23
              replace H := Option.bind_eq_some_iff.mp H
              obtain ⟨t156, A240, H⟩ := H
              try dsimp only at H
              have A24 := Aside0.mk A240
              clear A240
              refine dite (0 < (a0.size : Int)) (fun c25 => ?c25p) (fun c25 => ?c25n)
              case' c25n =>
               rw [if_neg c25] at H
               exact absurd H (by simp)
              case' c25p =>
               rw [if_pos c25] at H
               have c25b0 : decide (0 < (a0.size : Int)) = true := decide_eq_true c25
               have c25b1 : decide (0 < a0.size) = true := decide_eq_true (by omega)
               clear c25
               refine dite ((bt a0 0) = 0) (fun c27 => ?c27p) (fun c27 => ?c27n)
               case' c27n =>
                rw [if_neg c27] at H
                have c27b0 : ((bt a0 0) == 0) = false := beq_eq_false_iff_ne.mpr c27
                have c27b1 : ((bt a0 0) != 0) = true := bne_iff_ne.mpr c27
                simp only [Option.some.injEq, Prod.mk.injEq] at H
                obtain ⟨rfl, rfl, rfl, rfl, rfl, rfl⟩ := H
               case' c27p =>
                rw [if_pos c27] at H
                have c27b0 : ((bt a0 0) == 0) = true := beq_iff_eq.mpr c27
                have c27b1 : ((bt a0 0) != 0) = false := bne_eq_false_iff_eq.mpr c27
                clear c27
                replace H := Option.bind_eq_some_iff.mp H
                obtain ⟨t158, A280, H⟩ := H
                try dsimp only at H
                have A28 := Aside0.mk A280
                clear A280
                refine dite (t158 = true) (fun c29 => ?c29p) (fun c29 => ?c29n)
                case' c29n =>
                 replace c29 := Bool.eq_false_iff.mpr c29
                 subst c29
                 rw [if_neg (show ¬ (false = true) by decide)] at H
                 simp only [Option.some.injEq, Prod.mk.injEq] at H
                 obtain ⟨rfl, rfl, rfl, rfl, rfl, rfl⟩ := H
                case' c29p =>
                 subst c29
                 rw [if_pos rfl] at H
                 simp only [Option.some.injEq, Prod.mk.injEq] at H
                 obtain ⟨rfl, rfl, rfl, rfl, rfl, rfl⟩ := H
    all_goals
     go_enter Tq.func56, Try.ntmps56
     try go_wp2_with (first | ((with_reducible refine gate_dst (N := 2) rfl ?_); refine box_event ?hg (N := 2) ?hd (cs := #[.int .i64 0, .int .i64 0, .int .i64 0, .int .i64 0, .int .i64 0]) (t := 52) ?hr ?_; (case hd => rfl); (case hg => rfl); (case hr => first | (go_simp; done) | (go_simp; rfl)); intro gb150 hg w30 hbox hb; have BK150 := Aside0.mk (hbox); have GW150 := Aside0.mk ((by rw [hg]; exact (below_size (by exact bw HB.out)) : w.heap.size ≤ gb150)); have GE150 := Aside0.mk ((by rw [hg]; exact (below_size (by exact bw HB.out)) : w.heap.size ≤ gb150)); replace HB := Aside0.mk (below_step (by exact bw HB.out) hb); clear hb hbox hg) | ((with_reducible refine gate_callee (f := 80) rfl ?_); refine goesL_ (some 14) rfl rfl Tq.func80 (by kernel_rfl) rfl #[.string a0] rfl (by (try simp only [List.map_toArray, List.map_cons, List.map_nil]); first | done | rfl | (simp only [List.length_drop, List.length_take]; rfl)) ?_; (with_reducible refine (footwayref03_sum.calls k a0 t151 _ A8.out).mono ?_); rintro e w' ⟨rfl, ⟨nd, rfl⟩⟩; refine ⟨_, rfl, ?_⟩; (try (rw [drewN_self w30]; generalize hq_ : World.drewN w30 _ = w30; have n0_ : Aside0 (w30.heap[gb150]? = some (.cells #[.int .i64 0, .int .i64 0, .int .i64 0, .int .i64 0, .int .i64 0] 52 (0, 0))) := ⟨by rw [← hq_]; exact (by exact bk BK150.out rfl)⟩; have n1_ : Aside0 (Below w.heap.size w w30) := ⟨by rw [← hq_]; exact (by exact bw HB.out)⟩; clear BK150 HB hq_; have BK150 := n0_; have HB := n1_; clear n0_ n1_))))
     replace BK150 := Aside0.mk (blk_drew BK150.out)
     replace HB := Aside0.mk (below_drew1 HB.out)
     refine start_ (n := 19) (S := fun w' => True) (ds := []) #[ff, ff, ff, ff, ff, ff, ff, ff, ff, ff, ff, ff, ff, ff, ff, ff, ff, ff, ff] (by kernel_rfl) rfl rfl trivial (fun hHeld => ?_); refine with_tabW footwayref03_Parse.tab7 footwayref03_Parse.bits7 (fun HT_ HW_ => ?_)
     generalize w30.drew = w31 at BK150 HB hHeld ⊢
     refine pure_ (i := 0) (N := some 17) (v := ?_) (a' := ?_) #[tt, ff, ff, ff, ff, ff, ff, ff, ff, ff, ff, ff, ff, ff, ff, ff, ff, ff, ff] rfl rfl (any_of HT_.out (by kernel_rfl)) (fun _ _ _ h => h) (Or.inl ⟨by rfl, ?_⟩) ?_ ?_
     rotate_left
     ·intro w'
      go_simp
      with_reducible rfl
     rotate_left
     ·simp only [Act.put, sA, sZ, sS, i64_w, i32_w]
      rfl
     refine pure_ (i := 1) (N := some 18) (v := ?_) (a' := ?_) #[tt, tt, ff, ff, ff, ff, ff, ff, ff, ff, ff, ff, ff, ff, ff, ff, ff, ff, ff] rfl rfl (any_of HT_.out (by kernel_rfl)) (fun _ _ _ h => h) (Or.inl ⟨by rfl, ?_⟩) ?_ ?_
     rotate_left
     ·intro w'
      go_simp
      with_reducible rfl
     rotate_left
     ·simp only [Act.put, sA, sZ, sS, i64_w, i32_w]
      rfl
     refine pure_ (i := 3) (N := some 20) (v := ?_) (a' := ?_) #[tt, tt, ff, tt, ff, ff, ff, ff, ff, ff, ff, ff, ff, ff, ff, ff, ff, ff, ff] rfl rfl (any_of HT_.out (by kernel_rfl)) (fun _ _ _ h => h) (Or.inl ⟨by rfl, ?_⟩) ?_ ?_
     rotate_left
     ·intro w'
      go_simp
      with_reducible rfl
     rotate_left
     ·simp only [Act.put, sA, sZ, sS, i64_w, i32_w]
      rfl
     refine pure_ (i := 4) (N := some 21) (v := ?_) (a' := ?_) #[tt, tt, ff, tt, tt, ff, ff, ff, ff, ff, ff, ff, ff, ff, ff, ff, ff, ff, ff] rfl rfl (any_of HT_.out (by kernel_rfl)) (fun _ _ _ h => h) (Or.inl ⟨by rfl, ?_⟩) ?_ ?_
     rotate_left
     ·intro w'
      go_simp
      with_reducible rfl
     rotate_left
     ·simp only [Act.put, sA, sZ, sS, i64_w, i32_w]
      rfl
     refine pure_ (i := 6) (N := some 23) (v := ?_) (a' := ?_) #[tt, tt, ff, tt, tt, ff, tt, ff, ff, ff, ff, ff, ff, ff, ff, ff, ff, ff, ff] rfl rfl (any_of HT_.out (by kernel_rfl)) (fun _ _ _ h => h) (Or.inl ⟨by rfl, ?_⟩) ?_ ?_
     rotate_left
     ·intro w'
      go_simp
      with_reducible rfl
     rotate_left
     ·simp only [Act.put, sA, sZ, sS, i64_w, i32_w]
      rfl
     refine pure_ (i := 7) (N := some 24) (v := ?_) (a' := ?_) #[tt, tt, ff, tt, tt, ff, tt, tt, ff, ff, ff, ff, ff, ff, ff, ff, ff, ff, ff] rfl rfl (any_of HT_.out (by kernel_rfl)) (fun _ _ _ h => h) (Or.inl ⟨by rfl, ?_⟩) ?_ ?_
     rotate_left
     ·intro w'
      go_simp
      with_reducible rfl
     rotate_left
     ·simp only [Act.put, sA, sZ, sS, i64_w, i32_w]
      rfl
     refine pure_ (i := 9) (N := some 26) (v := ?_) (a' := ?_) #[tt, tt, ff, tt, tt, ff, tt, tt, ff, tt, ff, ff, ff, ff, ff, ff, ff, ff, ff] rfl rfl (any_of HT_.out (by kernel_rfl)) (fun _ _ _ h => h) (Or.inl ⟨by rfl, ?_⟩) ?_ ?_
     rotate_left
     ·intro w'
      go_simp
      with_reducible rfl
     rotate_left
     ·simp only [Act.put, sA, sZ, sS, i64_w, i32_w]
      rfl
     refine pure_ (i := 10) (N := some 27) (v := ?_) (a' := ?_) #[tt, tt, ff, tt, tt, ff, tt, tt, ff, tt, tt, ff, ff, ff, ff, ff, ff, ff, ff] rfl rfl (any_of HT_.out (by kernel_rfl)) (fun _ _ _ h => h) (Or.inl ⟨by rfl, ?_⟩) ?_ ?_
     rotate_left
     ·intro w'
      go_simp
      with_reducible rfl
     rotate_left
     ·simp only [Act.put, sA, sZ, sS, i64_w, i32_w]
      rfl
     refine pure_ (i := 13) (N := some 30) (v := ?_) (a' := ?_) #[tt, tt, ff, tt, tt, ff, tt, tt, ff, tt, tt, ff, ff, tt, ff, ff, ff, ff, ff] rfl rfl (any_of HT_.out (by kernel_rfl)) (fun _ _ _ h => h) (Or.inl ⟨by rfl, ?_⟩) ?_ ?_
     rotate_left
     ·intro w'
      go_simp
      with_reducible rfl
     rotate_left
     ·simp only [Act.put, sA, sZ, sS, i64_w, i32_w]
      rfl
     refine pure_ (i := 14) (N := some 31) (v := ?_) (a' := ?_) #[tt, tt, ff, tt, tt, ff, tt, tt, ff, tt, tt, ff, ff, tt, tt, ff, ff, ff, ff] rfl rfl (any_of HT_.out (by kernel_rfl)) (fun _ _ _ h => h) (Or.inl ⟨by rfl, ?_⟩) ?_ ?_
     rotate_left
     ·intro w'
      go_simp
      with_reducible rfl
     rotate_left
     ·simp only [Act.put, sA, sZ, sS, i64_w, i32_w]
      rfl
     refine join_ (σ := Nat) 1 #[tt, tt, tt, tt, tt, tt, tt, tt, tt, tt, tt, tt, tt, tt, tt, tt, tt, tt, ff] (fun s_ => [(19, .int .i64 t152), (22, .int .i64 t153), (25, .int .i64 t154), (28, .int .i64 t155), (32, .int .i64 t156), (4, .pointer (some ⟨s_, 0, none⟩)), (29, .agg #[.int .i64 t152, .int .i64 t153, .int .i64 t154, .int .i64 t155]), (33, .agg #[.int .i64 t152, .int .i64 t153, .int .i64 t154, .int .i64 t155, .int .i64 t156])]) (fun s_ w' => (w'.heap[gb150]? = some (.cells #[.int .i64 0, .int .i64 0, .int .i64 0, .int .i64 0, .int .i64 0] 52 (0, 0))) ∧ (w'.heap[s_]? = some (.cells #[.int .i64 0, .int .i64 0, .int .i64 0, .int .i64 0, .int .i64 0] 52 (0, 0))) ∧ (w.heap.size ≤ s_) ∧ (w.heap.size ≤ s_) ∧ (gb150 ≠ s_) ∧ (s_ ≠ gb150) ∧ (Below w.heap.size w w')) ?_ ?_
     rotate_left
     ·intro hJ2_5_8_11_15_17
      refine join_ (σ := Unit) 2 #[tt, tt, tt, tt, tt, tt, tt, tt, tt, tt, tt, tt, tt, tt, tt, tt, tt, ff, ff] (fun s_ => [(19, .int .i64 t152), (22, .int .i64 t153), (25, .int .i64 t154), (28, .int .i64 t155), (32, .int .i64 t156), (29, .agg #[.int .i64 t152, .int .i64 t153, .int .i64 t154, .int .i64 t155]), (33, .agg #[.int .i64 t152, .int .i64 t153, .int .i64 t154, .int .i64 t155, .int .i64 t156])]) (fun s_ w' => (w'.heap[gb150]? = some (.cells #[.int .i64 0, .int .i64 0, .int .i64 0, .int .i64 0, .int .i64 0] 52 (0, 0))) ∧ (Below w.heap.size w w')) ?_ ?_
      rotate_left
      ·intro hJ2_5_8_11_15
       refine join_ (σ := Nat) 3 #[tt, tt, tt, tt, tt, tt, tt, tt, tt, tt, tt, tt, tt, tt, tt, ff, ff, tt, ff] (fun s_ => [(19, .int .i64 t152), (22, .int .i64 t153), (25, .int .i64 t154), (28, .int .i64 t155), (4, .pointer (some ⟨s_, 0, none⟩)), (29, .agg #[.int .i64 t152, .int .i64 t153, .int .i64 t154, .int .i64 t155])]) (fun s_ w' => (w'.heap[gb150]? = some (.cells #[.int .i64 0, .int .i64 0, .int .i64 0, .int .i64 0, .int .i64 0] 52 (0, 0))) ∧ (w'.heap[s_]? = some (.cells #[.int .i64 0, .int .i64 0, .int .i64 0, .int .i64 0, .int .i64 0] 52 (0, 0))) ∧ (w.heap.size ≤ s_) ∧ (w.heap.size ≤ s_) ∧ (gb150 ≠ s_) ∧ (s_ ≠ gb150) ∧ (Below w.heap.size w w')) ?_ ?_
       rotate_left
       ·intro hJ2_5_8_11_17
        refine join_ (σ := Unit) 4 #[tt, tt, tt, tt, tt, tt, tt, tt, tt, tt, tt, tt, tt, tt, tt, ff, ff, ff, ff] (fun s_ => [(19, .int .i64 t152), (22, .int .i64 t153), (25, .int .i64 t154), (28, .int .i64 t155), (29, .agg #[.int .i64 t152, .int .i64 t153, .int .i64 t154, .int .i64 t155])]) (fun s_ w' => (w'.heap[gb150]? = some (.cells #[.int .i64 0, .int .i64 0, .int .i64 0, .int .i64 0, .int .i64 0] 52 (0, 0))) ∧ (Below w.heap.size w w')) ?_ ?_
        rotate_left
        ·intro hJ2_5_8_11
         refine join_ (σ := Nat) 5 #[tt, tt, tt, tt, tt, tt, tt, tt, tt, tt, tt, ff, ff, tt, tt, ff, ff, tt, ff] (fun s_ => [(19, .int .i64 t152), (22, .int .i64 t153), (25, .int .i64 t154), (4, .pointer (some ⟨s_, 0, none⟩))]) (fun s_ w' => (w'.heap[gb150]? = some (.cells #[.int .i64 0, .int .i64 0, .int .i64 0, .int .i64 0, .int .i64 0] 52 (0, 0))) ∧ (w'.heap[s_]? = some (.cells #[.int .i64 0, .int .i64 0, .int .i64 0, .int .i64 0, .int .i64 0] 52 (0, 0))) ∧ (w.heap.size ≤ s_) ∧ (w.heap.size ≤ s_) ∧ (gb150 ≠ s_) ∧ (s_ ≠ gb150) ∧ (Below w.heap.size w w')) ?_ ?_
         rotate_left
         ·intro hJ2_5_8_17
          refine join_ (σ := Unit) 6 #[tt, tt, tt, tt, tt, tt, tt, tt, tt, tt, tt, ff, ff, tt, tt, ff, ff, ff, ff] (fun s_ => [(19, .int .i64 t152), (22, .int .i64 t153), (25, .int .i64 t154)]) (fun s_ w' => (w'.heap[gb150]? = some (.cells #[.int .i64 0, .int .i64 0, .int .i64 0, .int .i64 0, .int .i64 0] 52 (0, 0))) ∧ (Below w.heap.size w w')) ?_ ?_
          rotate_left
          ·intro hJ2_5_8
           refine join_ (σ := Nat) 6 #[tt, tt, tt, tt, tt, tt, tt, tt, ff, tt, tt, ff, ff, tt, tt, ff, ff, tt, ff] (fun s_ => [(19, .int .i64 t152), (22, .int .i64 t153), (4, .pointer (some ⟨s_, 0, none⟩))]) (fun s_ w' => (w'.heap[gb150]? = some (.cells #[.int .i64 0, .int .i64 0, .int .i64 0, .int .i64 0, .int .i64 0] 52 (0, 0))) ∧ (w'.heap[s_]? = some (.cells #[.int .i64 0, .int .i64 0, .int .i64 0, .int .i64 0, .int .i64 0] 52 (0, 0))) ∧ (w.heap.size ≤ s_) ∧ (w.heap.size ≤ s_) ∧ (gb150 ≠ s_) ∧ (s_ ≠ gb150) ∧ (Below w.heap.size w w')) ?_ ?_
           rotate_left
           ·intro hJ2_5_17
            refine join_ (σ := Unit) 7 #[tt, tt, tt, tt, tt, tt, tt, tt, ff, tt, tt, ff, ff, tt, tt, ff, ff, ff, ff] (fun s_ => [(19, .int .i64 t152), (22, .int .i64 t153)]) (fun s_ w' => (w'.heap[gb150]? = some (.cells #[.int .i64 0, .int .i64 0, .int .i64 0, .int .i64 0, .int .i64 0] 52 (0, 0))) ∧ (Below w.heap.size w w')) ?_ ?_
            rotate_left
            ·intro hJ2_5
             refine join_ (σ := Nat) 7 #[tt, tt, tt, tt, tt, ff, tt, tt, ff, tt, tt, ff, ff, tt, tt, ff, ff, tt, ff] (fun s_ => [(19, .int .i64 t152), (4, .pointer (some ⟨s_, 0, none⟩))]) (fun s_ w' => (w'.heap[gb150]? = some (.cells #[.int .i64 0, .int .i64 0, .int .i64 0, .int .i64 0, .int .i64 0] 52 (0, 0))) ∧ (w'.heap[s_]? = some (.cells #[.int .i64 0, .int .i64 0, .int .i64 0, .int .i64 0, .int .i64 0] 52 (0, 0))) ∧ (w.heap.size ≤ s_) ∧ (w.heap.size ≤ s_) ∧ (gb150 ≠ s_) ∧ (s_ ≠ gb150) ∧ (Below w.heap.size w w')) ?_ ?_
             rotate_left
             ·intro hJ2_17
              refine join_ (σ := Unit) 8 #[tt, tt, tt, tt, tt, ff, tt, tt, ff, tt, tt, ff, ff, tt, tt, ff, ff, ff, ff] (fun s_ => [(19, .int .i64 t152)]) (fun s_ w' => (w'.heap[gb150]? = some (.cells #[.int .i64 0, .int .i64 0, .int .i64 0, .int .i64 0, .int .i64 0] 52 (0, 0))) ∧ (Below w.heap.size w w')) ?_ ?_
              rotate_left
              ·intro hJ2
               refine join_ (σ := Nat) 8 #[tt, tt, ff, tt, tt, ff, tt, tt, ff, tt, tt, ff, ff, tt, tt, ff, ff, tt, ff] (fun s_ => [(4, .pointer (some ⟨s_, 0, none⟩))]) (fun s_ w' => (w'.heap[gb150]? = some (.cells #[.int .i64 0, .int .i64 0, .int .i64 0, .int .i64 0, .int .i64 0] 52 (0, 0))) ∧ (w'.heap[s_]? = some (.cells #[.int .i64 0, .int .i64 0, .int .i64 0, .int .i64 0, .int .i64 0] 52 (0, 0))) ∧ (w.heap.size ≤ s_) ∧ (w.heap.size ≤ s_) ∧ (gb150 ≠ s_) ∧ (s_ ≠ gb150) ∧ (Below w.heap.size w w')) ?_ ?_
               rotate_left
               ·intro hJ17
                refine two_ (i := 2) (j := 17) (Ni := some 19) (Nj := some 4) #[tt, tt, tt, tt, tt, ff, tt, tt, ff, tt, tt, ff, ff, tt, tt, ff, ff, ff, ff] #[tt, tt, ff, tt, tt, ff, tt, tt, ff, tt, tt, ff, ff, tt, tt, ff, ff, tt, ff] rfl rfl rfl rfl (two_of HT_.out (by kernel_rfl)) (by decide) (by decide) (fun K hK => ?_) (fun K hK => ?_)
                ·skip
                 refine goes_ Tq.func81 (by kernel_rfl) rfl #[.string (a0.extract 1 3)] (by rfl) rfl rfl (by (try simp only [List.map_toArray, List.map_cons, List.map_nil]); first | done | rfl | (simp only [List.length_drop, List.length_take]; rfl)) ?_
                 with_reducible refine (footwayref03_read.calls k (a0.extract 1 3) t152 _ A12.out).mono ?_
                 rintro e w' ⟨rfl, ⟨nd, rfl⟩⟩
                 refine ⟨_, rfl, ?_⟩
                 refine hK.out _ _ trivial (fun hHeld => ?_)
                 clear hK K
                 refine norm_ (a' := ?_) ?_ ?_
                 rotate_left
                 ·show Act.put _ (some 19) _ = _
                  simp only [Act.put, sA, sZ, sS, i64_w, i32_w]
                  rfl
                 exact norm_ (by first | (simp only [putAll, Act.put, sA, sZ, sS]; done) | (simp only [putAll, Act.put, sA, sZ, sS]; rfl)) (hJ2 () _ ⟨(by exact bk BK150.out rfl), (by exact bw HB.out)⟩)
                ·skip
                 refine box_step ?hg (N := 4) ?hd (cs := #[.int .i64 0, .int .i64 0, .int .i64 0, .int .i64 0, .int .i64 0]) (t := 52) ?hr ?_; (case hd => rfl); (case hg => rfl); (case hr => first | (go_simp; done) | (go_simp; rfl))
                 intro gb157 hg w32 hbox hb
                 have BK157 := Aside0.mk (hbox)
                 have GW157 := Aside0.mk ((by rw [hg]; exact (below_size (by exact bw HB.out)) : w.heap.size ≤ gb157))
                 have GE157 := Aside0.mk ((by rw [hg]; exact (below_size (by exact bw HB.out)) : w.heap.size ≤ gb157))
                 replace HB := Aside0.mk (below_step (by exact bw HB.out) hb)
                 have NB150_157 := Aside0.mk ((by rw [hg]; exact Nat.ne_of_lt (bl BK150.out) : gb150 ≠ gb157))
                 have NB157_150 := Aside0.mk ((by rw [hg]; exact Nat.ne_of_gt (bl BK150.out) : gb157 ≠ gb150))
                 replace BK150 := Aside0.mk (blk_below (g := gb150) (o := .cells #[.int .i64 0, .int .i64 0, .int .i64 0, .int .i64 0, .int .i64 0] 52 (0, 0)) (by exact bk BK150.out rfl) hb)
                 clear hb hbox hg
                 refine hK.out _ _ trivial (fun hHeld => ?_)
                 clear hK K
                 refine norm_ (a' := ?_) ?_ ?_
                 rotate_left
                 ·show Act.put _ (some 4) _ = _
                  simp only [Act.put, sA, sZ, sS, i64_w, i32_w]
                  rfl
                 exact norm_ (by first | (simp only [putAll, Act.put, sA, sZ, sS]; done) | (simp only [putAll, Act.put, sA, sZ, sS]; rfl)) (hJ17 (gb157) _ ⟨(by exact bk BK150.out rfl), (by exact bk BK157.out rfl), GW157.out, GE157.out, NB150_157.out, NB157_150.out, (by exact bw HB.out)⟩)
               ·skip
                rintro gb157 w33 ⟨h0_, h1_, h2_, h3_, h4_, h5_, h6_⟩
                have n0_ : Aside0 (w33.heap[gb150]? = some (.cells #[.int .i64 0, .int .i64 0, .int .i64 0, .int .i64 0, .int .i64 0] 52 (0, 0))) := ⟨h0_⟩
                have n1_ : Aside0 (w33.heap[gb157]? = some (.cells #[.int .i64 0, .int .i64 0, .int .i64 0, .int .i64 0, .int .i64 0] 52 (0, 0))) := ⟨h1_⟩
                have n2_ : Aside0 (w.heap.size ≤ gb157) := ⟨h2_⟩
                have n3_ : Aside0 (w.heap.size ≤ gb157) := ⟨h3_⟩
                have n4_ : Aside0 (gb150 ≠ gb157) := ⟨h4_⟩
                have n5_ : Aside0 (gb157 ≠ gb150) := ⟨h5_⟩
                have n6_ : Aside0 (Below w.heap.size w w33) := ⟨h6_⟩
                clear BK150
                clear HB
                clear h0_ h1_ h2_ h3_ h4_ h5_ h6_
                have BK150 := n0_
                have BK157 := n1_
                have GW157 := n2_
                have GE157 := n3_
                have NB150_157 := n4_
                have NB157_150 := n5_
                have HB := n6_
                clear n0_ n1_ n2_ n3_ n4_ n5_ n6_
                have hHeld := trivial
                refine norm_ (a' := ?_) ?_ ?_
                rotate_left
                ·simp only [putAll, Act.put, sA, sZ, sS]
                 rfl
                refine one_ (i := 2) (N := some 19) #[tt, tt, tt, tt, tt, ff, tt, tt, ff, tt, tt, ff, ff, tt, tt, ff, ff, tt, ff] rfl rfl (one_of HT_.out (by kernel_rfl)) (by decide) (fun K hK => ?_)
                refine goes_ Tq.func81 (by kernel_rfl) rfl #[.string (a0.extract 1 3)] (by rfl) rfl rfl (by (try simp only [List.map_toArray, List.map_cons, List.map_nil]); first | done | rfl | (simp only [List.length_drop, List.length_take]; rfl)) ?_
                with_reducible refine (footwayref03_read.calls k (a0.extract 1 3) t152 _ A12.out).mono ?_
                rintro e w' ⟨rfl, ⟨nd, rfl⟩⟩
                refine ⟨_, rfl, ?_⟩
                refine hK.out _ _ trivial (fun hHeld => ?_)
                clear hK K
                refine norm_ (a' := ?_) ?_ ?_
                rotate_left
                ·show Act.put _ (some 19) _ = _
                 simp only [Act.put, sA, sZ, sS, i64_w, i32_w]
                 rfl
                exact norm_ (by first | (simp only [putAll, Act.put, sA, sZ, sS]; done) | (simp only [putAll, Act.put, sA, sZ, sS]; rfl)) (hJ2_17 (gb157) _ ⟨(by exact bk BK150.out rfl), (by exact bk BK157.out rfl), GW157.out, GE157.out, NB150_157.out, NB157_150.out, (by exact bw HB.out)⟩)
              ·skip
               rintro _ w32 ⟨h0_, h1_⟩
               have n0_ : Aside0 (w32.heap[gb150]? = some (.cells #[.int .i64 0, .int .i64 0, .int .i64 0, .int .i64 0, .int .i64 0] 52 (0, 0))) := ⟨h0_⟩
               have n1_ : Aside0 (Below w.heap.size w w32) := ⟨h1_⟩
               clear BK150
               clear HB
               clear h0_ h1_
               have BK150 := n0_
               have HB := n1_
               clear n0_ n1_
               have hHeld := trivial
               refine norm_ (a' := ?_) ?_ ?_
               rotate_left
               ·simp only [putAll, Act.put, sA, sZ, sS]
                rfl
               refine two_ (i := 5) (j := 17) (Ni := some 22) (Nj := some 4) #[tt, tt, tt, tt, tt, tt, tt, tt, ff, tt, tt, ff, ff, tt, tt, ff, ff, ff, ff] #[tt, tt, tt, tt, tt, ff, tt, tt, ff, tt, tt, ff, ff, tt, tt, ff, ff, tt, ff] rfl rfl rfl rfl (two_of HT_.out (by kernel_rfl)) (by decide) (by decide) (fun K hK => ?_) (fun K hK => ?_)
               ·skip
                refine goes_ Tq.func81 (by kernel_rfl) rfl #[.string (a0.extract 3 7)] (by rfl) rfl rfl (by (try simp only [List.map_toArray, List.map_cons, List.map_nil]); first | done | rfl | (simp only [List.length_drop, List.length_take]; rfl)) ?_
                with_reducible refine (footwayref03_read.calls k (a0.extract 3 7) t153 _ A15.out).mono ?_
                rintro e w' ⟨rfl, ⟨nd, rfl⟩⟩
                refine ⟨_, rfl, ?_⟩
                refine hK.out _ _ trivial (fun hHeld => ?_)
                clear hK K
                refine norm_ (a' := ?_) ?_ ?_
                rotate_left
                ·show Act.put _ (some 22) _ = _
                 simp only [Act.put, sA, sZ, sS, i64_w, i32_w]
                 rfl
                exact norm_ (by first | (simp only [putAll, Act.put, sA, sZ, sS]; done) | (simp only [putAll, Act.put, sA, sZ, sS]; rfl)) (hJ2_5 () _ ⟨(by exact bk BK150.out rfl), (by exact bw HB.out)⟩)
               ·skip
                refine box_step ?hg (N := 4) ?hd (cs := #[.int .i64 0, .int .i64 0, .int .i64 0, .int .i64 0, .int .i64 0]) (t := 52) ?hr ?_; (case hd => rfl); (case hg => rfl); (case hr => first | (go_simp; done) | (go_simp; rfl))
                intro gb157 hg w33 hbox hb
                have BK157 := Aside0.mk (hbox)
                have GW157 := Aside0.mk ((by rw [hg]; exact (below_size (by exact bw HB.out)) : w.heap.size ≤ gb157))
                have GE157 := Aside0.mk ((by rw [hg]; exact (below_size (by exact bw HB.out)) : w.heap.size ≤ gb157))
                replace HB := Aside0.mk (below_step (by exact bw HB.out) hb)
                have NB150_157 := Aside0.mk ((by rw [hg]; exact Nat.ne_of_lt (bl BK150.out) : gb150 ≠ gb157))
                have NB157_150 := Aside0.mk ((by rw [hg]; exact Nat.ne_of_gt (bl BK150.out) : gb157 ≠ gb150))
                replace BK150 := Aside0.mk (blk_below (g := gb150) (o := .cells #[.int .i64 0, .int .i64 0, .int .i64 0, .int .i64 0, .int .i64 0] 52 (0, 0)) (by exact bk BK150.out rfl) hb)
                clear hb hbox hg
                refine hK.out _ _ trivial (fun hHeld => ?_)
                clear hK K
                refine norm_ (a' := ?_) ?_ ?_
                rotate_left
                ·show Act.put _ (some 4) _ = _
                 simp only [Act.put, sA, sZ, sS, i64_w, i32_w]
                 rfl
                exact norm_ (by first | (simp only [putAll, Act.put, sA, sZ, sS]; done) | (simp only [putAll, Act.put, sA, sZ, sS]; rfl)) (hJ2_17 (gb157) _ ⟨(by exact bk BK150.out rfl), (by exact bk BK157.out rfl), GW157.out, GE157.out, NB150_157.out, NB157_150.out, (by exact bw HB.out)⟩)
             ·skip
              rintro gb157 w33 ⟨h0_, h1_, h2_, h3_, h4_, h5_, h6_⟩
              have n0_ : Aside0 (w33.heap[gb150]? = some (.cells #[.int .i64 0, .int .i64 0, .int .i64 0, .int .i64 0, .int .i64 0] 52 (0, 0))) := ⟨h0_⟩
              have n1_ : Aside0 (w33.heap[gb157]? = some (.cells #[.int .i64 0, .int .i64 0, .int .i64 0, .int .i64 0, .int .i64 0] 52 (0, 0))) := ⟨h1_⟩
              have n2_ : Aside0 (w.heap.size ≤ gb157) := ⟨h2_⟩
              have n3_ : Aside0 (w.heap.size ≤ gb157) := ⟨h3_⟩
              have n4_ : Aside0 (gb150 ≠ gb157) := ⟨h4_⟩
              have n5_ : Aside0 (gb157 ≠ gb150) := ⟨h5_⟩
              have n6_ : Aside0 (Below w.heap.size w w33) := ⟨h6_⟩
              clear BK150
              clear HB
              clear h0_ h1_ h2_ h3_ h4_ h5_ h6_
              have BK150 := n0_
              have BK157 := n1_
              have GW157 := n2_
              have GE157 := n3_
              have NB150_157 := n4_
              have NB157_150 := n5_
              have HB := n6_
              clear n0_ n1_ n2_ n3_ n4_ n5_ n6_
              have hHeld := trivial
              refine norm_ (a' := ?_) ?_ ?_
              rotate_left
              ·simp only [putAll, Act.put, sA, sZ, sS]
               rfl
              refine one_ (i := 5) (N := some 22) #[tt, tt, tt, tt, tt, tt, tt, tt, ff, tt, tt, ff, ff, tt, tt, ff, ff, tt, ff] rfl rfl (one_of HT_.out (by kernel_rfl)) (by decide) (fun K hK => ?_)
              refine goes_ Tq.func81 (by kernel_rfl) rfl #[.string (a0.extract 3 7)] (by rfl) rfl rfl (by (try simp only [List.map_toArray, List.map_cons, List.map_nil]); first | done | rfl | (simp only [List.length_drop, List.length_take]; rfl)) ?_
              with_reducible refine (footwayref03_read.calls k (a0.extract 3 7) t153 _ A15.out).mono ?_
              rintro e w' ⟨rfl, ⟨nd, rfl⟩⟩
              refine ⟨_, rfl, ?_⟩
              refine hK.out _ _ trivial (fun hHeld => ?_)
              clear hK K
              refine norm_ (a' := ?_) ?_ ?_
              rotate_left
              ·show Act.put _ (some 22) _ = _
               simp only [Act.put, sA, sZ, sS, i64_w, i32_w]
               rfl
              exact norm_ (by first | (simp only [putAll, Act.put, sA, sZ, sS]; done) | (simp only [putAll, Act.put, sA, sZ, sS]; rfl)) (hJ2_5_17 (gb157) _ ⟨(by exact bk BK150.out rfl), (by exact bk BK157.out rfl), GW157.out, GE157.out, NB150_157.out, NB157_150.out, (by exact bw HB.out)⟩)
            ·skip
             rintro _ w32 ⟨h0_, h1_⟩
             have n0_ : Aside0 (w32.heap[gb150]? = some (.cells #[.int .i64 0, .int .i64 0, .int .i64 0, .int .i64 0, .int .i64 0] 52 (0, 0))) := ⟨h0_⟩
             have n1_ : Aside0 (Below w.heap.size w w32) := ⟨h1_⟩
             clear BK150
             clear HB
             clear h0_ h1_
             have BK150 := n0_
             have HB := n1_
             clear n0_ n1_
             have hHeld := trivial
             refine norm_ (a' := ?_) ?_ ?_
             rotate_left
             ·simp only [putAll, Act.put, sA, sZ, sS]
              rfl
             refine two_ (i := 8) (j := 17) (Ni := some 25) (Nj := some 4) #[tt, tt, tt, tt, tt, tt, tt, tt, tt, tt, tt, ff, ff, tt, tt, ff, ff, ff, ff] #[tt, tt, tt, tt, tt, tt, tt, tt, ff, tt, tt, ff, ff, tt, tt, ff, ff, tt, ff] rfl rfl rfl rfl (two_of HT_.out (by kernel_rfl)) (by decide) (by decide) (fun K hK => ?_) (fun K hK => ?_)
             ·skip
              refine goes_ Tq.func81 (by kernel_rfl) rfl #[.string (a0.extract 7 9)] (by rfl) rfl rfl (by (try simp only [List.map_toArray, List.map_cons, List.map_nil]); first | done | rfl | (simp only [List.length_drop, List.length_take]; rfl)) ?_
              with_reducible refine (footwayref03_read.calls k (a0.extract 7 9) t154 _ A18.out).mono ?_
              rintro e w' ⟨rfl, ⟨nd, rfl⟩⟩
              refine ⟨_, rfl, ?_⟩
              refine hK.out _ _ trivial (fun hHeld => ?_)
              clear hK K
              refine norm_ (a' := ?_) ?_ ?_
              rotate_left
              ·show Act.put _ (some 25) _ = _
               simp only [Act.put, sA, sZ, sS, i64_w, i32_w]
               rfl
              exact norm_ (by first | (simp only [putAll, Act.put, sA, sZ, sS]; done) | (simp only [putAll, Act.put, sA, sZ, sS]; rfl)) (hJ2_5_8 () _ ⟨(by exact bk BK150.out rfl), (by exact bw HB.out)⟩)
             ·skip
              refine box_step ?hg (N := 4) ?hd (cs := #[.int .i64 0, .int .i64 0, .int .i64 0, .int .i64 0, .int .i64 0]) (t := 52) ?hr ?_; (case hd => rfl); (case hg => rfl); (case hr => first | (go_simp; done) | (go_simp; rfl))
              intro gb157 hg w33 hbox hb
              have BK157 := Aside0.mk (hbox)
              have GW157 := Aside0.mk ((by rw [hg]; exact (below_size (by exact bw HB.out)) : w.heap.size ≤ gb157))
              have GE157 := Aside0.mk ((by rw [hg]; exact (below_size (by exact bw HB.out)) : w.heap.size ≤ gb157))
              replace HB := Aside0.mk (below_step (by exact bw HB.out) hb)
              have NB150_157 := Aside0.mk ((by rw [hg]; exact Nat.ne_of_lt (bl BK150.out) : gb150 ≠ gb157))
              have NB157_150 := Aside0.mk ((by rw [hg]; exact Nat.ne_of_gt (bl BK150.out) : gb157 ≠ gb150))
              replace BK150 := Aside0.mk (blk_below (g := gb150) (o := .cells #[.int .i64 0, .int .i64 0, .int .i64 0, .int .i64 0, .int .i64 0] 52 (0, 0)) (by exact bk BK150.out rfl) hb)
              clear hb hbox hg
              refine hK.out _ _ trivial (fun hHeld => ?_)
              clear hK K
              refine norm_ (a' := ?_) ?_ ?_
              rotate_left
              ·show Act.put _ (some 4) _ = _
               simp only [Act.put, sA, sZ, sS, i64_w, i32_w]
               rfl
              exact norm_ (by first | (simp only [putAll, Act.put, sA, sZ, sS]; done) | (simp only [putAll, Act.put, sA, sZ, sS]; rfl)) (hJ2_5_17 (gb157) _ ⟨(by exact bk BK150.out rfl), (by exact bk BK157.out rfl), GW157.out, GE157.out, NB150_157.out, NB157_150.out, (by exact bw HB.out)⟩)
           ·skip
            rintro gb157 w33 ⟨h0_, h1_, h2_, h3_, h4_, h5_, h6_⟩
            have n0_ : Aside0 (w33.heap[gb150]? = some (.cells #[.int .i64 0, .int .i64 0, .int .i64 0, .int .i64 0, .int .i64 0] 52 (0, 0))) := ⟨h0_⟩
            have n1_ : Aside0 (w33.heap[gb157]? = some (.cells #[.int .i64 0, .int .i64 0, .int .i64 0, .int .i64 0, .int .i64 0] 52 (0, 0))) := ⟨h1_⟩
            have n2_ : Aside0 (w.heap.size ≤ gb157) := ⟨h2_⟩
            have n3_ : Aside0 (w.heap.size ≤ gb157) := ⟨h3_⟩
            have n4_ : Aside0 (gb150 ≠ gb157) := ⟨h4_⟩
            have n5_ : Aside0 (gb157 ≠ gb150) := ⟨h5_⟩
            have n6_ : Aside0 (Below w.heap.size w w33) := ⟨h6_⟩
            clear BK150
            clear HB
            clear h0_ h1_ h2_ h3_ h4_ h5_ h6_
            have BK150 := n0_
            have BK157 := n1_
            have GW157 := n2_
            have GE157 := n3_
            have NB150_157 := n4_
            have NB157_150 := n5_
            have HB := n6_
            clear n0_ n1_ n2_ n3_ n4_ n5_ n6_
            have hHeld := trivial
            refine norm_ (a' := ?_) ?_ ?_
            rotate_left
            ·simp only [putAll, Act.put, sA, sZ, sS]
             rfl
            refine one_ (i := 8) (N := some 25) #[tt, tt, tt, tt, tt, tt, tt, tt, tt, tt, tt, ff, ff, tt, tt, ff, ff, tt, ff] rfl rfl (one_of HT_.out (by kernel_rfl)) (by decide) (fun K hK => ?_)
            refine goes_ Tq.func81 (by kernel_rfl) rfl #[.string (a0.extract 7 9)] (by rfl) rfl rfl (by (try simp only [List.map_toArray, List.map_cons, List.map_nil]); first | done | rfl | (simp only [List.length_drop, List.length_take]; rfl)) ?_
            with_reducible refine (footwayref03_read.calls k (a0.extract 7 9) t154 _ A18.out).mono ?_
            rintro e w' ⟨rfl, ⟨nd, rfl⟩⟩
            refine ⟨_, rfl, ?_⟩
            refine hK.out _ _ trivial (fun hHeld => ?_)
            clear hK K
            refine norm_ (a' := ?_) ?_ ?_
            rotate_left
            ·show Act.put _ (some 25) _ = _
             simp only [Act.put, sA, sZ, sS, i64_w, i32_w]
             rfl
            exact norm_ (by first | (simp only [putAll, Act.put, sA, sZ, sS]; done) | (simp only [putAll, Act.put, sA, sZ, sS]; rfl)) (hJ2_5_8_17 (gb157) _ ⟨(by exact bk BK150.out rfl), (by exact bk BK157.out rfl), GW157.out, GE157.out, NB150_157.out, NB157_150.out, (by exact bw HB.out)⟩)
          ·skip
           rintro _ w32 ⟨h0_, h1_⟩
           have n0_ : Aside0 (w32.heap[gb150]? = some (.cells #[.int .i64 0, .int .i64 0, .int .i64 0, .int .i64 0, .int .i64 0] 52 (0, 0))) := ⟨h0_⟩
           have n1_ : Aside0 (Below w.heap.size w w32) := ⟨h1_⟩
           clear BK150
           clear HB
           clear h0_ h1_
           have BK150 := n0_
           have HB := n1_
           clear n0_ n1_
           have hHeld := trivial
           refine norm_ (a' := ?_) ?_ ?_
           rotate_left
           ·simp only [putAll, Act.put, sA, sZ, sS]
            rfl
           refine two_ (i := 11) (j := 17) (Ni := some 28) (Nj := some 4) #[tt, tt, tt, tt, tt, tt, tt, tt, tt, tt, tt, tt, ff, tt, tt, ff, ff, ff, ff] #[tt, tt, tt, tt, tt, tt, tt, tt, tt, tt, tt, ff, ff, tt, tt, ff, ff, tt, ff] rfl rfl rfl rfl (two_of HT_.out (by kernel_rfl)) (by decide) (by decide) (fun K hK => ?_) (fun K hK => ?_)
           ·skip
            refine goes_ Tq.func81 (by kernel_rfl) rfl #[.string (a0.extract 9 10)] (by rfl) rfl rfl (by (try simp only [List.map_toArray, List.map_cons, List.map_nil]); first | done | rfl | (simp only [List.length_drop, List.length_take]; rfl)) ?_
            with_reducible refine (footwayref03_read.calls k (a0.extract 9 10) t155 _ A21.out).mono ?_
            rintro e w' ⟨rfl, ⟨nd, rfl⟩⟩
            refine ⟨_, rfl, ?_⟩
            refine hK.out _ _ trivial (fun hHeld => ?_)
            clear hK K
            refine norm_ (a' := ?_) ?_ ?_
            rotate_left
            ·show Act.put _ (some 28) _ = _
             simp only [Act.put, sA, sZ, sS, i64_w, i32_w]
             rfl
            refine pure_ (i := 12) (N := some 29) (v := ?_) (a' := ?_) #[tt, tt, tt, tt, tt, tt, tt, tt, tt, tt, tt, tt, tt, tt, tt, ff, ff, ff, ff] rfl rfl (any_of HT_.out (by kernel_rfl)) (fun _ _ _ h => h) (Or.inl ⟨by rfl, ?_⟩) ?_ ?_
            rotate_left
            ·intro w'
             go_simp
             with_reducible rfl
            rotate_left
            ·simp only [Act.put, sA, sZ, sS, i64_w, i32_w]
             rfl
            exact norm_ (by first | (simp only [putAll, Act.put, sA, sZ, sS]; done) | (simp only [putAll, Act.put, sA, sZ, sS]; rfl)) (hJ2_5_8_11 () _ ⟨(by exact bk BK150.out rfl), (by exact bw HB.out)⟩)
           ·skip
            refine box_step ?hg (N := 4) ?hd (cs := #[.int .i64 0, .int .i64 0, .int .i64 0, .int .i64 0, .int .i64 0]) (t := 52) ?hr ?_; (case hd => rfl); (case hg => rfl); (case hr => first | (go_simp; done) | (go_simp; rfl))
            intro gb157 hg w33 hbox hb
            have BK157 := Aside0.mk (hbox)
            have GW157 := Aside0.mk ((by rw [hg]; exact (below_size (by exact bw HB.out)) : w.heap.size ≤ gb157))
            have GE157 := Aside0.mk ((by rw [hg]; exact (below_size (by exact bw HB.out)) : w.heap.size ≤ gb157))
            replace HB := Aside0.mk (below_step (by exact bw HB.out) hb)
            have NB150_157 := Aside0.mk ((by rw [hg]; exact Nat.ne_of_lt (bl BK150.out) : gb150 ≠ gb157))
            have NB157_150 := Aside0.mk ((by rw [hg]; exact Nat.ne_of_gt (bl BK150.out) : gb157 ≠ gb150))
            replace BK150 := Aside0.mk (blk_below (g := gb150) (o := .cells #[.int .i64 0, .int .i64 0, .int .i64 0, .int .i64 0, .int .i64 0] 52 (0, 0)) (by exact bk BK150.out rfl) hb)
            clear hb hbox hg
            refine hK.out _ _ trivial (fun hHeld => ?_)
            clear hK K
            refine norm_ (a' := ?_) ?_ ?_
            rotate_left
            ·show Act.put _ (some 4) _ = _
             simp only [Act.put, sA, sZ, sS, i64_w, i32_w]
             rfl
            exact norm_ (by first | (simp only [putAll, Act.put, sA, sZ, sS]; done) | (simp only [putAll, Act.put, sA, sZ, sS]; rfl)) (hJ2_5_8_17 (gb157) _ ⟨(by exact bk BK150.out rfl), (by exact bk BK157.out rfl), GW157.out, GE157.out, NB150_157.out, NB157_150.out, (by exact bw HB.out)⟩)
         ·skip
          rintro gb157 w33 ⟨h0_, h1_, h2_, h3_, h4_, h5_, h6_⟩
          have n0_ : Aside0 (w33.heap[gb150]? = some (.cells #[.int .i64 0, .int .i64 0, .int .i64 0, .int .i64 0, .int .i64 0] 52 (0, 0))) := ⟨h0_⟩
          have n1_ : Aside0 (w33.heap[gb157]? = some (.cells #[.int .i64 0, .int .i64 0, .int .i64 0, .int .i64 0, .int .i64 0] 52 (0, 0))) := ⟨h1_⟩
          have n2_ : Aside0 (w.heap.size ≤ gb157) := ⟨h2_⟩
          have n3_ : Aside0 (w.heap.size ≤ gb157) := ⟨h3_⟩
          have n4_ : Aside0 (gb150 ≠ gb157) := ⟨h4_⟩
          have n5_ : Aside0 (gb157 ≠ gb150) := ⟨h5_⟩
          have n6_ : Aside0 (Below w.heap.size w w33) := ⟨h6_⟩
          clear BK150
          clear HB
          clear h0_ h1_ h2_ h3_ h4_ h5_ h6_
          have BK150 := n0_
          have BK157 := n1_
          have GW157 := n2_
          have GE157 := n3_
          have NB150_157 := n4_
          have NB157_150 := n5_
          have HB := n6_
          clear n0_ n1_ n2_ n3_ n4_ n5_ n6_
          have hHeld := trivial
          refine norm_ (a' := ?_) ?_ ?_
          rotate_left
          ·simp only [putAll, Act.put, sA, sZ, sS]
           rfl
          refine one_ (i := 11) (N := some 28) #[tt, tt, tt, tt, tt, tt, tt, tt, tt, tt, tt, tt, ff, tt, tt, ff, ff, tt, ff] rfl rfl (one_of HT_.out (by kernel_rfl)) (by decide) (fun K hK => ?_)
          refine goes_ Tq.func81 (by kernel_rfl) rfl #[.string (a0.extract 9 10)] (by rfl) rfl rfl (by (try simp only [List.map_toArray, List.map_cons, List.map_nil]); first | done | rfl | (simp only [List.length_drop, List.length_take]; rfl)) ?_
          with_reducible refine (footwayref03_read.calls k (a0.extract 9 10) t155 _ A21.out).mono ?_
          rintro e w' ⟨rfl, ⟨nd, rfl⟩⟩
          refine ⟨_, rfl, ?_⟩
          refine hK.out _ _ trivial (fun hHeld => ?_)
          clear hK K
          refine norm_ (a' := ?_) ?_ ?_
          rotate_left
          ·show Act.put _ (some 28) _ = _
           simp only [Act.put, sA, sZ, sS, i64_w, i32_w]
           rfl
          refine pure_ (i := 12) (N := some 29) (v := ?_) (a' := ?_) #[tt, tt, tt, tt, tt, tt, tt, tt, tt, tt, tt, tt, tt, tt, tt, ff, ff, tt, ff] rfl rfl (any_of HT_.out (by kernel_rfl)) (fun _ _ _ h => h) (Or.inl ⟨by rfl, ?_⟩) ?_ ?_
          rotate_left
          ·intro w'
           go_simp
           with_reducible rfl
          rotate_left
          ·simp only [Act.put, sA, sZ, sS, i64_w, i32_w]
           rfl
          exact norm_ (by first | (simp only [putAll, Act.put, sA, sZ, sS]; done) | (simp only [putAll, Act.put, sA, sZ, sS]; rfl)) (hJ2_5_8_11_17 (gb157) _ ⟨(by exact bk BK150.out rfl), (by exact bk BK157.out rfl), GW157.out, GE157.out, NB150_157.out, NB157_150.out, (by exact bw HB.out)⟩)
        ·skip
         rintro _ w32 ⟨h0_, h1_⟩
         have n0_ : Aside0 (w32.heap[gb150]? = some (.cells #[.int .i64 0, .int .i64 0, .int .i64 0, .int .i64 0, .int .i64 0] 52 (0, 0))) := ⟨h0_⟩
         have n1_ : Aside0 (Below w.heap.size w w32) := ⟨h1_⟩
         clear BK150
         clear HB
         clear h0_ h1_
         have BK150 := n0_
         have HB := n1_
         clear n0_ n1_
         have hHeld := trivial
         refine norm_ (a' := ?_) ?_ ?_
         rotate_left
         ·simp only [putAll, Act.put, sA, sZ, sS]
          rfl
         refine two_ (i := 15) (j := 17) (Ni := some 32) (Nj := some 4) #[tt, tt, tt, tt, tt, tt, tt, tt, tt, tt, tt, tt, tt, tt, tt, tt, ff, ff, ff] #[tt, tt, tt, tt, tt, tt, tt, tt, tt, tt, tt, tt, tt, tt, tt, ff, ff, tt, ff] rfl rfl rfl rfl (two_of HT_.out (by kernel_rfl)) (by decide) (by decide) (fun K hK => ?_) (fun K hK => ?_)
         ·skip
          refine goes_ Tq.func81 (by kernel_rfl) rfl #[.string (a0.extract 10 11)] (by rfl) rfl rfl (by (try simp only [List.map_toArray, List.map_cons, List.map_nil]); first | done | rfl | (simp only [List.length_drop, List.length_take]; rfl)) ?_
          with_reducible refine (footwayref03_read.calls k (a0.extract 10 11) t156 _ A24.out).mono ?_
          rintro e w' ⟨rfl, ⟨nd, rfl⟩⟩
          refine ⟨_, rfl, ?_⟩
          refine hK.out _ _ trivial (fun hHeld => ?_)
          clear hK K
          refine norm_ (a' := ?_) ?_ ?_
          rotate_left
          ·show Act.put _ (some 32) _ = _
           simp only [Act.put, sA, sZ, sS, i64_w, i32_w]
           rfl
          refine pure_ (i := 16) (N := some 33) (v := ?_) (a' := ?_) #[tt, tt, tt, tt, tt, tt, tt, tt, tt, tt, tt, tt, tt, tt, tt, tt, tt, ff, ff] rfl rfl (any_of HT_.out (by kernel_rfl)) (fun _ _ _ h => h) (Or.inl ⟨by rfl, ?_⟩) ?_ ?_
          rotate_left
          ·intro w'
           go_simp
           with_reducible rfl
          rotate_left
          ·simp only [Act.put, sA, sZ, sS, i64_w, i32_w]
           rfl
          exact norm_ (by first | (simp only [putAll, Act.put, sA, sZ, sS]; done) | (simp only [putAll, Act.put, sA, sZ, sS]; rfl)) (hJ2_5_8_11_15 () _ ⟨(by exact bk BK150.out rfl), (by exact bw HB.out)⟩)
         ·skip
          refine box_step ?hg (N := 4) ?hd (cs := #[.int .i64 0, .int .i64 0, .int .i64 0, .int .i64 0, .int .i64 0]) (t := 52) ?hr ?_; (case hd => rfl); (case hg => rfl); (case hr => first | (go_simp; done) | (go_simp; rfl))
          intro gb157 hg w33 hbox hb
          have BK157 := Aside0.mk (hbox)
          have GW157 := Aside0.mk ((by rw [hg]; exact (below_size (by exact bw HB.out)) : w.heap.size ≤ gb157))
          have GE157 := Aside0.mk ((by rw [hg]; exact (below_size (by exact bw HB.out)) : w.heap.size ≤ gb157))
          replace HB := Aside0.mk (below_step (by exact bw HB.out) hb)
          have NB150_157 := Aside0.mk ((by rw [hg]; exact Nat.ne_of_lt (bl BK150.out) : gb150 ≠ gb157))
          have NB157_150 := Aside0.mk ((by rw [hg]; exact Nat.ne_of_gt (bl BK150.out) : gb157 ≠ gb150))
          replace BK150 := Aside0.mk (blk_below (g := gb150) (o := .cells #[.int .i64 0, .int .i64 0, .int .i64 0, .int .i64 0, .int .i64 0] 52 (0, 0)) (by exact bk BK150.out rfl) hb)
          clear hb hbox hg
          refine hK.out _ _ trivial (fun hHeld => ?_)
          clear hK K
          refine norm_ (a' := ?_) ?_ ?_
          rotate_left
          ·show Act.put _ (some 4) _ = _
           simp only [Act.put, sA, sZ, sS, i64_w, i32_w]
           rfl
          exact norm_ (by first | (simp only [putAll, Act.put, sA, sZ, sS]; done) | (simp only [putAll, Act.put, sA, sZ, sS]; rfl)) (hJ2_5_8_11_17 (gb157) _ ⟨(by exact bk BK150.out rfl), (by exact bk BK157.out rfl), GW157.out, GE157.out, NB150_157.out, NB157_150.out, (by exact bw HB.out)⟩)
       ·skip
        rintro gb157 w33 ⟨h0_, h1_, h2_, h3_, h4_, h5_, h6_⟩
        have n0_ : Aside0 (w33.heap[gb150]? = some (.cells #[.int .i64 0, .int .i64 0, .int .i64 0, .int .i64 0, .int .i64 0] 52 (0, 0))) := ⟨h0_⟩
        have n1_ : Aside0 (w33.heap[gb157]? = some (.cells #[.int .i64 0, .int .i64 0, .int .i64 0, .int .i64 0, .int .i64 0] 52 (0, 0))) := ⟨h1_⟩
        have n2_ : Aside0 (w.heap.size ≤ gb157) := ⟨h2_⟩
        have n3_ : Aside0 (w.heap.size ≤ gb157) := ⟨h3_⟩
        have n4_ : Aside0 (gb150 ≠ gb157) := ⟨h4_⟩
        have n5_ : Aside0 (gb157 ≠ gb150) := ⟨h5_⟩
        have n6_ : Aside0 (Below w.heap.size w w33) := ⟨h6_⟩
        clear BK150
        clear HB
        clear h0_ h1_ h2_ h3_ h4_ h5_ h6_
        have BK150 := n0_
        have BK157 := n1_
        have GW157 := n2_
        have GE157 := n3_
        have NB150_157 := n4_
        have NB157_150 := n5_
        have HB := n6_
        clear n0_ n1_ n2_ n3_ n4_ n5_ n6_
        have hHeld := trivial
        refine norm_ (a' := ?_) ?_ ?_
        rotate_left
        ·simp only [putAll, Act.put, sA, sZ, sS]
         rfl
        refine one_ (i := 15) (N := some 32) #[tt, tt, tt, tt, tt, tt, tt, tt, tt, tt, tt, tt, tt, tt, tt, tt, ff, tt, ff] rfl rfl (one_of HT_.out (by kernel_rfl)) (by decide) (fun K hK => ?_)
        refine goes_ Tq.func81 (by kernel_rfl) rfl #[.string (a0.extract 10 11)] (by rfl) rfl rfl (by (try simp only [List.map_toArray, List.map_cons, List.map_nil]); first | done | rfl | (simp only [List.length_drop, List.length_take]; rfl)) ?_
        with_reducible refine (footwayref03_read.calls k (a0.extract 10 11) t156 _ A24.out).mono ?_
        rintro e w' ⟨rfl, ⟨nd, rfl⟩⟩
        refine ⟨_, rfl, ?_⟩
        refine hK.out _ _ trivial (fun hHeld => ?_)
        clear hK K
        refine norm_ (a' := ?_) ?_ ?_
        rotate_left
        ·show Act.put _ (some 32) _ = _
         simp only [Act.put, sA, sZ, sS, i64_w, i32_w]
         rfl
        refine pure_ (i := 16) (N := some 33) (v := ?_) (a' := ?_) #[tt, tt, tt, tt, tt, tt, tt, tt, tt, tt, tt, tt, tt, tt, tt, tt, tt, tt, ff] rfl rfl (any_of HT_.out (by kernel_rfl)) (fun _ _ _ h => h) (Or.inl ⟨by rfl, ?_⟩) ?_ ?_
        rotate_left
        ·intro w'
         go_simp
         with_reducible rfl
        rotate_left
        ·simp only [Act.put, sA, sZ, sS, i64_w, i32_w]
         rfl
        exact norm_ (by first | (simp only [putAll, Act.put, sA, sZ, sS]; done) | (simp only [putAll, Act.put, sA, sZ, sS]; rfl)) (hJ2_5_8_11_15_17 (gb157) _ ⟨(by exact bk BK150.out rfl), (by exact bk BK157.out rfl), GW157.out, GE157.out, NB150_157.out, NB157_150.out, (by exact bw HB.out)⟩)
      ·skip
       rintro _ w32 ⟨h0_, h1_⟩
       have n0_ : Aside0 (w32.heap[gb150]? = some (.cells #[.int .i64 0, .int .i64 0, .int .i64 0, .int .i64 0, .int .i64 0] 52 (0, 0))) := ⟨h0_⟩
       have n1_ : Aside0 (Below w.heap.size w w32) := ⟨h1_⟩
       clear BK150
       clear HB
       clear h0_ h1_
       have BK150 := n0_
       have HB := n1_
       clear n0_ n1_
       have hHeld := trivial
       refine norm_ (a' := ?_) ?_ ?_
       rotate_left
       ·simp only [putAll, Act.put, sA, sZ, sS]
        rfl
       refine one_ (i := 17) (N := some 4) #[tt, tt, tt, tt, tt, tt, tt, tt, tt, tt, tt, tt, tt, tt, tt, tt, tt, tt, ff] rfl rfl (one_of HT_.out (by kernel_rfl)) (by decide) (fun K hK => ?_)
       refine box_step ?hg (N := 4) ?hd (cs := #[.int .i64 0, .int .i64 0, .int .i64 0, .int .i64 0, .int .i64 0]) (t := 52) ?hr ?_; (case hd => rfl); (case hg => rfl); (case hr => first | (go_simp; done) | (go_simp; rfl))
       intro gb157 hg w33 hbox hb
       have BK157 := Aside0.mk (hbox)
       have GW157 := Aside0.mk ((by rw [hg]; exact (below_size (by exact bw HB.out)) : w.heap.size ≤ gb157))
       have GE157 := Aside0.mk ((by rw [hg]; exact (below_size (by exact bw HB.out)) : w.heap.size ≤ gb157))
       replace HB := Aside0.mk (below_step (by exact bw HB.out) hb)
       have NB150_157 := Aside0.mk ((by rw [hg]; exact Nat.ne_of_lt (bl BK150.out) : gb150 ≠ gb157))
       have NB157_150 := Aside0.mk ((by rw [hg]; exact Nat.ne_of_gt (bl BK150.out) : gb157 ≠ gb150))
       replace BK150 := Aside0.mk (blk_below (g := gb150) (o := .cells #[.int .i64 0, .int .i64 0, .int .i64 0, .int .i64 0, .int .i64 0] 52 (0, 0)) (by exact bk BK150.out rfl) hb)
       clear hb hbox hg
       refine hK.out _ _ trivial (fun hHeld => ?_)
       clear hK K
       refine norm_ (a' := ?_) ?_ ?_
       rotate_left
       ·show Act.put _ (some 4) _ = _
        simp only [Act.put, sA, sZ, sS, i64_w, i32_w]
        rfl
       exact norm_ (by first | (simp only [putAll, Act.put, sA, sZ, sS]; done) | (simp only [putAll, Act.put, sA, sZ, sS]; rfl)) (hJ2_5_8_11_15_17 (gb157) _ ⟨(by exact bk BK150.out rfl), (by exact bk BK157.out rfl), GW157.out, GE157.out, NB150_157.out, NB157_150.out, (by exact bw HB.out)⟩)
     rintro gb157 w33 ⟨h0_, h1_, h2_, h3_, h4_, h5_, h6_⟩
     have n0_ : Aside0 (w33.heap[gb150]? = some (.cells #[.int .i64 0, .int .i64 0, .int .i64 0, .int .i64 0, .int .i64 0] 52 (0, 0))) := ⟨h0_⟩
     have n1_ : Aside0 (w33.heap[gb157]? = some (.cells #[.int .i64 0, .int .i64 0, .int .i64 0, .int .i64 0, .int .i64 0] 52 (0, 0))) := ⟨h1_⟩
     have n2_ : Aside0 (w.heap.size ≤ gb157) := ⟨h2_⟩
     have n3_ : Aside0 (w.heap.size ≤ gb157) := ⟨h3_⟩
     have n4_ : Aside0 (gb150 ≠ gb157) := ⟨h4_⟩
     have n5_ : Aside0 (gb157 ≠ gb150) := ⟨h5_⟩
     have n6_ : Aside0 (Below w.heap.size w w33) := ⟨h6_⟩
     clear BK150
     clear HB
     clear h0_ h1_ h2_ h3_ h4_ h5_ h6_
     have BK150 := n0_
     have BK157 := n1_
     have GW157 := n2_
     have GE157 := n3_
     have NB150_157 := n4_
     have NB157_150 := n5_
     have HB := n6_
     clear n0_ n1_ n2_ n3_ n4_ n5_ n6_
     have hHeld := trivial
     refine norm_ (a' := ?_) ?_ ?_
     rotate_left
     ·simp only [putAll, Act.put, sA, sZ, sS]
      rfl
     refine one_ (i := 18) (N := none) #[tt, tt, tt, tt, tt, tt, tt, tt, tt, tt, tt, tt, tt, tt, tt, tt, tt, tt, tt] rfl rfl (one_of HT_.out (by kernel_rfl)) (by decide) (fun K hK => ?_)
     have hs34 : w33.cell? ⟨gb157, 0, none⟩ = some (.int .i64 0) := (blk_cell BK157.out 0).trans rfl
     have hfs34 := blk_frozen BK157.out 0
     have hns34_0 := NB150_157.out
     have hms34_0 := NB157_150.out
     have hs35 : w33.cell? ⟨gb157, 1, none⟩ = some (.int .i64 0) := (blk_cell BK157.out 1).trans rfl
     have hfs35 := blk_frozen BK157.out 1
     have hns35_0 := NB150_157.out
     have hms35_0 := NB157_150.out
     have hs36 : w33.cell? ⟨gb157, 2, none⟩ = some (.int .i64 0) := (blk_cell BK157.out 2).trans rfl
     have hfs36 := blk_frozen BK157.out 2
     have hns36_0 := NB150_157.out
     have hms36_0 := NB157_150.out
     have hs37 : w33.cell? ⟨gb157, 3, none⟩ = some (.int .i64 0) := (blk_cell BK157.out 3).trans rfl
     have hfs37 := blk_frozen BK157.out 3
     have hns37_0 := NB150_157.out
     have hms37_0 := NB157_150.out
     have hs38 : w33.cell? ⟨gb157, 4, none⟩ = some (.int .i64 0) := (blk_cell BK157.out 4).trans rfl
     have hfs38 := blk_frozen BK157.out 4
     have hns38_0 := NB150_157.out
     have hms38_0 := NB157_150.out
     refine skip_ (w1 := ?_) (by rfl) rfl ?_ ?_
     rotate_left
     ·go_simp
      rfl
     refine hK.out _ _ trivial (fun hHeld => ?_)
     clear hK K
     refine done_ (done_of HT_.out (by kernel_rfl)) ?_
     have p26 : 0 ≤ (0 : Int) := (by omega)
     have q26 : 0 < a0.size := (by have : (0 : Int) < (a0.size : Int) := of_decide_eq_true (by first | (with_reducible assumption) | assumption); omega)
     have hx26 : ∀ h : 0 < a0.size, ((a0[0]'h).toNat : Int) = bt a0 0 := bt_at a0 0
     clear p26
     have qi26 : (0 < (a0.size : Int)) = True := eq_true (of_decide_eq_true (by first | (with_reducible assumption) | assumption))
     replace q26 := eq_true q26
    ·have hnb39 := NB157_150.out
     have hnc39 := NB150_157.out
     obtain ⟨hcz40_0, hcz40_1, hcz40_2, hcz40_3, hcz40_4, hfz40_0, hfz40_1, hfz40_2, hfz40_3, hfz40_4⟩ := cs5 BK157.out
     try go_wp2_with (first | (go_at_call 59; (with_reducible refine (footwayref03_Right.calls t152 t153 t154 t155 t156 true _ A28.out).mono ?_); rintro e w41 ⟨rfl, hb⟩; replace BK150 := Aside0.mk (blk_below (g := gb150) (o := .cells #[.int .i64 0, .int .i64 0, .int .i64 0, .int .i64 0, .int .i64 0] 52 (0, 0)) (by exact bk BK150.out rfl) hb); replace BK157 := Aside0.mk (blk_below (g := gb157) (o := .cells #[.int .i64 t152, .int .i64 t153, .int .i64 t154, .int .i64 t155, .int .i64 t156] 52 (0, 0)) (by exact bk BK157.out rfl) hb); replace HB := Aside0.mk (below_step (by exact bw HB.out) hb); (try clear hb); (try clear hb2); (try clear hk); (try clear hi); obtain ⟨hcz42_0, hcz42_1, hcz42_2, hcz42_3, hcz42_4, hfz42_0, hfz42_1, hfz42_2, hfz42_3, hfz42_4⟩ := cs5 BK157.out; obtain ⟨hcz43_0, hcz43_1, hcz43_2, hcz43_3, hcz43_4, hfz43_0, hfz43_1, hfz43_2, hfz43_3, hfz43_4⟩ := cs5 BK150.out))
     refine bodyPost_ret (results_ct rfl _ _ gb150 52 #[.int .i64 t152, .int .i64 t153, .int .i64 t154, .int .i64 t155, .int .i64 t156] (0, 0) _ rfl (by exact bk BK150.out rfl) Tq.underlying52 rfl (by kernel_rfl)) rfl ?_
     exact ⟨by first | rfl | (simp [errW_none, errW_some] <;> rfl) | (simp [*, errW_none, errW_some] <;> rfl), by exact bw HB.out⟩
    ·have hnb53 := NB157_150.out
     have hnc53 := NB150_157.out
     obtain ⟨hcz54_0, hcz54_1, hcz54_2, hcz54_3, hcz54_4, hfz54_0, hfz54_1, hfz54_2, hfz54_3, hfz54_4⟩ := cs5 BK157.out
     try go_wp2_with (first | (go_at_call 59; (with_reducible refine (footwayref03_Right.calls t152 t153 t154 t155 t156 false _ A28.out).mono ?_); rintro e w55 ⟨rfl, hb⟩; replace BK150 := Aside0.mk (blk_below (g := gb150) (o := .cells #[.int .i64 0, .int .i64 0, .int .i64 0, .int .i64 0, .int .i64 0] 52 (0, 0)) (by exact bk BK150.out rfl) hb); replace BK157 := Aside0.mk (blk_below (g := gb157) (o := .cells #[.int .i64 t152, .int .i64 t153, .int .i64 t154, .int .i64 t155, .int .i64 t156] 52 (0, 0)) (by exact bk BK157.out rfl) hb); replace HB := Aside0.mk (below_step (by exact bw HB.out) hb); (try clear hb); (try clear hb2); (try clear hk); (try clear hi); obtain ⟨hcz56_0, hcz56_1, hcz56_2, hcz56_3, hcz56_4, hfz56_0, hfz56_1, hfz56_2, hfz56_3, hfz56_4⟩ := cs5 BK150.out))
     refine bodyPost_ret (results_ct rfl _ _ gb150 52 #[.int .i64 0, .int .i64 0, .int .i64 0, .int .i64 0, .int .i64 0] (0, 0) _ rfl (by exact bk BK150.out rfl) Tq.underlying52 rfl (by kernel_rfl)) rfl ?_
     exact ⟨by first | rfl | (simp [errW_none, errW_some] <;> rfl) | (simp [*, errW_none, errW_some] <;> rfl), by exact bw HB.out⟩
    ·have hnb66 := NB150_157.out
     have hnc66 := NB157_150.out
     obtain ⟨hcz67_0, hcz67_1, hcz67_2, hcz67_3, hcz67_4, hfz67_0, hfz67_1, hfz67_2, hfz67_3, hfz67_4⟩ := cs5 BK150.out
     try go_wp2
     refine bodyPost_ret (results_ct rfl _ _ gb150 52 #[.int .i64 0, .int .i64 0, .int .i64 0, .int .i64 0, .int .i64 0] (0, 0) _ rfl (by exact bk BK150.out rfl) Tq.underlying52 rfl (by kernel_rfl)) rfl ?_
     exact ⟨by first | rfl | (simp [errW_none, errW_some] <;> rfl) | (simp [*, errW_none, errW_some] <;> rfl), by exact bw HB.out⟩
   ·rw [if_neg c9] at H
    have c9b0 : (t151 == 0) = false := beq_eq_false_iff_ne.mpr c9
    have c9b1 : (t151 != 0) = true := bne_iff_ne.mpr c9
    simp only [Option.some.injEq, Prod.mk.injEq] at H
    obtain ⟨rfl, rfl, rfl, rfl, rfl, rfl⟩ := H
    go_enter Tq.func56, Try.ntmps56
    go_wp2_with (first | ((with_reducible refine gate_dst (N := 2) rfl ?_); refine box_event ?hg (N := 2) ?hd (cs := #[.int .i64 0, .int .i64 0, .int .i64 0, .int .i64 0, .int .i64 0]) (t := 52) ?hr ?_; (case hd => rfl); (case hg => rfl); (case hr => first | (go_simp; done) | (go_simp; rfl)); intro gb150 hg w68 hbox hb; have BK150 := Aside0.mk (hbox); have GW150 := Aside0.mk ((by rw [hg]; exact (below_size (by exact bw HB.out)) : w.heap.size ≤ gb150)); have GE150 := Aside0.mk ((by rw [hg]; exact (below_size (by exact bw HB.out)) : w.heap.size ≤ gb150)); replace HB := Aside0.mk (below_step (by exact bw HB.out) hb); clear hb hbox hg) | ((with_reducible refine gate_callee (f := 80) rfl ?_); refine goesL_ (some 14) rfl rfl Tq.func80 (by kernel_rfl) rfl #[.string a0] rfl (by (try simp only [List.map_toArray, List.map_cons, List.map_nil]); first | done | rfl | (simp only [List.length_drop, List.length_take]; rfl)) ?_; (with_reducible refine (footwayref03_sum.calls k a0 t151 _ A8.out).mono ?_); rintro e w' ⟨rfl, ⟨nd, rfl⟩⟩; refine ⟨_, rfl, ?_⟩; (try (rw [drewN_self w68]; generalize hq_ : World.drewN w68 _ = w68; have n0_ : Aside0 (w68.heap[gb150]? = some (.cells #[.int .i64 0, .int .i64 0, .int .i64 0, .int .i64 0, .int .i64 0] 52 (0, 0))) := ⟨by rw [← hq_]; exact (by exact bk BK150.out rfl)⟩; have n1_ : Aside0 (Below w.heap.size w w68) := ⟨by rw [← hq_]; exact (by exact bw HB.out)⟩; clear BK150 HB hq_; have BK150 := n0_; have HB := n1_; clear n0_ n1_)); obtain ⟨hcz69_0, hcz69_1, hcz69_2, hcz69_3, hcz69_4, hfz69_0, hfz69_1, hfz69_2, hfz69_3, hfz69_4⟩ := cs5 BK150.out))
    refine bodyPost_ret (results_ct rfl _ _ gb150 52 #[.int .i64 0, .int .i64 0, .int .i64 0, .int .i64 0, .int .i64 0] (0, 0) _ rfl (by exact bk BK150.out rfl) Tq.underlying52 rfl (by kernel_rfl)) rfl ?_
    exact ⟨by first | rfl | (simp [errW_none, errW_some] <;> rfl) | (simp [*, errW_none, errW_some] <;> rfl), by exact bw HB.out⟩
end Go.Proofs.Ytnikfjfcbpeieaa.PBp
end
