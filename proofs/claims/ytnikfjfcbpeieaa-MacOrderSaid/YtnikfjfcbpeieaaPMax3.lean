-- Laid by a program of this session out of the translation; Lean checks it.
import Derived.Test.YtnikfjfcbpeieaaPMax0
import Derived.Test.YtnikfjfcbpeieaaBd
import Derived.Test.YtnikfjfcbpeieaaMp
import Derived.Test.YtnikfjfcbpeieaaPBbx1
import Derived.Test.YtnikfjfcbpeieaaFp
import Derived.Test.YtnikfjfcbpeieaaPMax1
import Derived.Test.YtnikfjfcbpeieaaBd
import Derived.Test.YtnikfjfcbpeieaaFp
import Derived.Test.YtnikfjfcbpeieaaMp
import Derived.Test.YtnikfjfcbpeieaaPBax1
namespace Go.Proofs.Ytnikfjfcbpeieaa.PMa
open Go.RowKit Go.Proofs.Ytnikfjfcbpeieaa.EFrame Go.Proofs.Ytnikfjfcbpeieaa.PBa Go.Proofs.Ytnikfjfcbpeieaa.PBb Go.Proofs.Ytnikfjfcbpeieaa.EPr Go.Proofs.Ytnikfjfcbpeieaa.EOn Go.Proofs.YtnikfjfcbpeieaaW.PrintWords Go.Proofs.YtnikfjfcbpeieaaW.PrintLast Go.Proofs.YtnikfjfcbpeieaaW.PrintMore
attribute [local go_sem] max2_int min2_int max_two min_two max_three min_three max_four min_four   -- for this text's walks alone
set_option linter.unusedVariables false
set_option linter.unusedSimpArgs false

/-! ### footwaylaw01_MacBack: function 9 -/
mutual
def footwaylaw01_MacBack.j0 : Nat → Int → ByteArray → ByteArray → Int → Bool → Option (Bool)
  | 0, _, _, _, _, _ => none
  | k + 1, x0, x1, x5, x13, x94 => if x94 = true then (some false) else (if 0 < (x5.size : Int) then (if ((x13 == 0) != ((Int.tmod (bt x5 0) 2) == 0)) = true then (footwaylaw01_MacBack.j1 k x1 true) else (if x0 ≥ 1652522221568 then (footwaylaw01_MacBack.j1 k x1 ((x13 == 2) != (decide (x0 < 1652522221584)))) else (footwaylaw01_MacBack.j1 k x1 ((x13 == 2) != false)))) else (none))
def footwaylaw01_MacBack.j1 : Nat → ByteArray → Bool → Option (Bool)
  | 0, _, _ => none
  | k + 1, x1, x112 => if x112 = true then (some false) else ((mac_Parse.f x1).bind fun bt152 => (if bt152.2 = 0 then ((mac_Print.f bt152.1).bind fun bt154 => (if bt154.2 = 0 then (some (bt154.1.toList == x1.toList)) else (some false))) else (some (bt152.1 == 0))))
end
def footwaylaw01_MacBack.f (k : Nat) (a0 : Int) (a1 : ByteArray) : Option (Bool) := if 0 ≤ (mn (a1.size : Int) 30) then (if (mn (a1.size : Int) 30) ≤ (a1.size : Int) then ((mac_Bytes.f (wrap64 (Int.tmod (IntKind.u64.wrap (a0)) 281474976710656))).bind fun bt141 => ((mac_Print.f (wrap64 (Int.tmod (IntKind.u64.wrap (a0)) 281474976710656))).bind fun bt143 => ((mac_Of.f k bt141.1).bind fun bt145 => ((mac_Parse.f bt143.1).bind fun bt147 => ((mac_Class.f (wrap64 (Int.tmod (IntKind.u64.wrap (a0)) 281474976710656))).bind fun bt149 => (if bt141.2 = 0 then (if bt143.2 = 0 then (if bt145.2 = 0 then (if bt147.2 = 0 then (if bt149.2 = 0 then (if bt145.1 = (wrap64 (Int.tmod (IntKind.u64.wrap (a0)) 281474976710656)) then (if bt147.1 = (wrap64 (Int.tmod (IntKind.u64.wrap (a0)) 281474976710656)) then (if (bt141.1.size : Int) = 6 then (if (bt143.1.size : Int) = 17 then ((footwaylaw01_alive.f).bind fun t151 => (footwaylaw01_MacBack.j0 k (wrap64 (Int.tmod (IntKind.u64.wrap (a0)) 281474976710656)) (a1.extract 0 ((mn (a1.size : Int) 30) : Int).toNat) bt141.1 bt149.1 (!t151))) else (footwaylaw01_MacBack.j0 k (wrap64 (Int.tmod (IntKind.u64.wrap (a0)) 281474976710656)) (a1.extract 0 ((mn (a1.size : Int) 30) : Int).toNat) bt141.1 bt149.1 true)) else (footwaylaw01_MacBack.j0 k (wrap64 (Int.tmod (IntKind.u64.wrap (a0)) 281474976710656)) (a1.extract 0 ((mn (a1.size : Int) 30) : Int).toNat) bt141.1 bt149.1 true)) else (footwaylaw01_MacBack.j0 k (wrap64 (Int.tmod (IntKind.u64.wrap (a0)) 281474976710656)) (a1.extract 0 ((mn (a1.size : Int) 30) : Int).toNat) bt141.1 bt149.1 true)) else (footwaylaw01_MacBack.j0 k (wrap64 (Int.tmod (IntKind.u64.wrap (a0)) 281474976710656)) (a1.extract 0 ((mn (a1.size : Int) 30) : Int).toNat) bt141.1 bt149.1 true)) else (footwaylaw01_MacBack.j0 k (wrap64 (Int.tmod (IntKind.u64.wrap (a0)) 281474976710656)) (a1.extract 0 ((mn (a1.size : Int) 30) : Int).toNat) bt141.1 bt149.1 true)) else (footwaylaw01_MacBack.j0 k (wrap64 (Int.tmod (IntKind.u64.wrap (a0)) 281474976710656)) (a1.extract 0 ((mn (a1.size : Int) 30) : Int).toNat) bt141.1 bt149.1 true)) else (footwaylaw01_MacBack.j0 k (wrap64 (Int.tmod (IntKind.u64.wrap (a0)) 281474976710656)) (a1.extract 0 ((mn (a1.size : Int) 30) : Int).toNat) bt141.1 bt149.1 true)) else (footwaylaw01_MacBack.j0 k (wrap64 (Int.tmod (IntKind.u64.wrap (a0)) 281474976710656)) (a1.extract 0 ((mn (a1.size : Int) 30) : Int).toNat) bt141.1 bt149.1 true)) else (footwaylaw01_MacBack.j0 k (wrap64 (Int.tmod (IntKind.u64.wrap (a0)) 281474976710656)) (a1.extract 0 ((mn (a1.size : Int) 30) : Int).toNat) bt141.1 bt149.1 true))))))) else (none)) else (none)
theorem footwaylaw01_MacBack.mono_l : ∀ k, (∀ y0 y1 y2 y3 y4, LeO (footwaylaw01_MacBack.j0 k y0 y1 y2 y3 y4) (footwaylaw01_MacBack.j0 (k + 1) y0 y1 y2 y3 y4)) ∧ (∀ y0 y1, LeO (footwaylaw01_MacBack.j1 k y0 y1) (footwaylaw01_MacBack.j1 (k + 1) y0 y1))
  | 0 => ⟨fun _ _ _ _ _ r h => by simp [footwaylaw01_MacBack.j0] at h, fun _ _ r h => by simp [footwaylaw01_MacBack.j1] at h⟩
  | k + 1 => by
    obtain ⟨ih0, ih1⟩ := footwaylaw01_MacBack.mono_l k
    refine ⟨?_, ?_⟩
    · intro y0 y1 y2 y3 y4
      unfold footwaylaw01_MacBack.j0
      repeat' first
      | (with_reducible exact ih0 _ _ _ _ _)
      | (with_reducible exact ih1 _ _)
      | (with_reducible exact mac_Of.mono _ _)
      | (with_reducible exact LeO.refl _)
      | (with_reducible exact LeO.none _)
      | (with_reducible refine LeO.ite ?_ ?_)
      | (with_reducible refine LeO.bind ?_ (fun _ => ?_))
      | exact ih0 _ _ _ _ _
      | exact ih1 _ _
      | exact mac_Of.mono _ _
      | exact LeO.none _
      | refine LeO.ite ?_ ?_
      | refine LeO.bind ?_ (fun _ => ?_)
    · intro y0 y1
      unfold footwaylaw01_MacBack.j1
      repeat' first
      | (with_reducible exact ih0 _ _ _ _ _)
      | (with_reducible exact ih1 _ _)
      | (with_reducible exact mac_Of.mono _ _)
      | (with_reducible exact LeO.refl _)
      | (with_reducible exact LeO.none _)
      | (with_reducible refine LeO.ite ?_ ?_)
      | (with_reducible refine LeO.bind ?_ (fun _ => ?_))
      | exact ih0 _ _ _ _ _
      | exact ih1 _ _
      | exact mac_Of.mono _ _
      | exact LeO.none _
      | refine LeO.ite ?_ ?_
      | refine LeO.bind ?_ (fun _ => ?_)
theorem footwaylaw01_MacBack.mono : ∀ a0 a1 k, LeO (footwaylaw01_MacBack.f k a0 a1) (footwaylaw01_MacBack.f (k + 1) a0 a1) := by
  intro a0 a1 k
  obtain ⟨ih0, ih1⟩ := footwaylaw01_MacBack.mono_l k
  unfold footwaylaw01_MacBack.f
  repeat' first
      | (with_reducible exact ih0 _ _ _ _ _)
      | (with_reducible exact ih1 _ _)
      | (with_reducible exact mac_Of.mono _ _)
      | (with_reducible exact LeO.refl _)
      | (with_reducible exact LeO.none _)
      | (with_reducible refine LeO.ite ?_ ?_)
      | (with_reducible refine LeO.bind ?_ (fun _ => ?_))
      | exact ih0 _ _ _ _ _
      | exact ih1 _ _
      | exact mac_Of.mono _ _
      | exact LeO.none _
      | refine LeO.ite ?_ ?_
      | refine LeO.bind ?_ (fun _ => ?_)
set_option maxHeartbeats 8000000 in
set_option maxRecDepth 100000 in
theorem footwaylaw01_MacBack.calls (k : Nat) (a0 : Int) (a1 : ByteArray) (r : Bool) (w : World) (h : footwaylaw01_MacBack.f k a0 a1 = some r) :
    Calls Try.prog 9 #[.int .i64 a0, .string a1] w fun e w' => e = .returned (.bool r) ∧ Below w.heap.size w w' := by
  have HB := Aside0.mk (Below.refl w.heap.size w)
  have H : (if 0 ≤ (mn (a1.size : Int) 30) then (if (mn (a1.size : Int) 30) ≤ (a1.size : Int) then ((mac_Bytes.f (wrap64 (Int.tmod (IntKind.u64.wrap (a0)) 281474976710656))).bind fun bt141 => ((mac_Print.f (wrap64 (Int.tmod (IntKind.u64.wrap (a0)) 281474976710656))).bind fun bt143 => ((mac_Of.f k bt141.1).bind fun bt145 => ((mac_Parse.f bt143.1).bind fun bt147 => ((mac_Class.f (wrap64 (Int.tmod (IntKind.u64.wrap (a0)) 281474976710656))).bind fun bt149 => (if bt141.2 = 0 then (if bt143.2 = 0 then (if bt145.2 = 0 then (if bt147.2 = 0 then (if bt149.2 = 0 then (if bt145.1 = (wrap64 (Int.tmod (IntKind.u64.wrap (a0)) 281474976710656)) then (if bt147.1 = (wrap64 (Int.tmod (IntKind.u64.wrap (a0)) 281474976710656)) then (if (bt141.1.size : Int) = 6 then (if (bt143.1.size : Int) = 17 then ((footwaylaw01_alive.f).bind fun t151 => (footwaylaw01_MacBack.j0 k (wrap64 (Int.tmod (IntKind.u64.wrap (a0)) 281474976710656)) (a1.extract 0 ((mn (a1.size : Int) 30) : Int).toNat) bt141.1 bt149.1 (!t151))) else (footwaylaw01_MacBack.j0 k (wrap64 (Int.tmod (IntKind.u64.wrap (a0)) 281474976710656)) (a1.extract 0 ((mn (a1.size : Int) 30) : Int).toNat) bt141.1 bt149.1 true)) else (footwaylaw01_MacBack.j0 k (wrap64 (Int.tmod (IntKind.u64.wrap (a0)) 281474976710656)) (a1.extract 0 ((mn (a1.size : Int) 30) : Int).toNat) bt141.1 bt149.1 true)) else (footwaylaw01_MacBack.j0 k (wrap64 (Int.tmod (IntKind.u64.wrap (a0)) 281474976710656)) (a1.extract 0 ((mn (a1.size : Int) 30) : Int).toNat) bt141.1 bt149.1 true)) else (footwaylaw01_MacBack.j0 k (wrap64 (Int.tmod (IntKind.u64.wrap (a0)) 281474976710656)) (a1.extract 0 ((mn (a1.size : Int) 30) : Int).toNat) bt141.1 bt149.1 true)) else (footwaylaw01_MacBack.j0 k (wrap64 (Int.tmod (IntKind.u64.wrap (a0)) 281474976710656)) (a1.extract 0 ((mn (a1.size : Int) 30) : Int).toNat) bt141.1 bt149.1 true)) else (footwaylaw01_MacBack.j0 k (wrap64 (Int.tmod (IntKind.u64.wrap (a0)) 281474976710656)) (a1.extract 0 ((mn (a1.size : Int) 30) : Int).toNat) bt141.1 bt149.1 true)) else (footwaylaw01_MacBack.j0 k (wrap64 (Int.tmod (IntKind.u64.wrap (a0)) 281474976710656)) (a1.extract 0 ((mn (a1.size : Int) 30) : Int).toNat) bt141.1 bt149.1 true)) else (footwaylaw01_MacBack.j0 k (wrap64 (Int.tmod (IntKind.u64.wrap (a0)) 281474976710656)) (a1.extract 0 ((mn (a1.size : Int) 30) : Int).toNat) bt141.1 bt149.1 true)) else (footwaylaw01_MacBack.j0 k (wrap64 (Int.tmod (IntKind.u64.wrap (a0)) 281474976710656)) (a1.extract 0 ((mn (a1.size : Int) 30) : Int).toNat) bt141.1 bt149.1 true))))))) else (none)) else (none)) = some r := h
  clear h
  obtain ⟨ji3, hji3⟩ : ∃ j_ : Int, (mn (a1.size : Int) 30) = j_ := ⟨_, rfl⟩
  replace H : (if 0 ≤ (ji3) then (if (ji3) ≤ (a1.size : Int) then ((mac_Bytes.f (wrap64 (Int.tmod (IntKind.u64.wrap (a0)) 281474976710656))).bind fun bt141 => ((mac_Print.f (wrap64 (Int.tmod (IntKind.u64.wrap (a0)) 281474976710656))).bind fun bt143 => ((mac_Of.f k bt141.1).bind fun bt145 => ((mac_Parse.f bt143.1).bind fun bt147 => ((mac_Class.f (wrap64 (Int.tmod (IntKind.u64.wrap (a0)) 281474976710656))).bind fun bt149 => (if bt141.2 = 0 then (if bt143.2 = 0 then (if bt145.2 = 0 then (if bt147.2 = 0 then (if bt149.2 = 0 then (if bt145.1 = (wrap64 (Int.tmod (IntKind.u64.wrap (a0)) 281474976710656)) then (if bt147.1 = (wrap64 (Int.tmod (IntKind.u64.wrap (a0)) 281474976710656)) then (if (bt141.1.size : Int) = 6 then (if (bt143.1.size : Int) = 17 then ((footwaylaw01_alive.f).bind fun t151 => (footwaylaw01_MacBack.j0 k (wrap64 (Int.tmod (IntKind.u64.wrap (a0)) 281474976710656)) (a1.extract 0 ((ji3) : Int).toNat) bt141.1 bt149.1 (!t151))) else (footwaylaw01_MacBack.j0 k (wrap64 (Int.tmod (IntKind.u64.wrap (a0)) 281474976710656)) (a1.extract 0 ((ji3) : Int).toNat) bt141.1 bt149.1 true)) else (footwaylaw01_MacBack.j0 k (wrap64 (Int.tmod (IntKind.u64.wrap (a0)) 281474976710656)) (a1.extract 0 ((ji3) : Int).toNat) bt141.1 bt149.1 true)) else (footwaylaw01_MacBack.j0 k (wrap64 (Int.tmod (IntKind.u64.wrap (a0)) 281474976710656)) (a1.extract 0 ((ji3) : Int).toNat) bt141.1 bt149.1 true)) else (footwaylaw01_MacBack.j0 k (wrap64 (Int.tmod (IntKind.u64.wrap (a0)) 281474976710656)) (a1.extract 0 ((ji3) : Int).toNat) bt141.1 bt149.1 true)) else (footwaylaw01_MacBack.j0 k (wrap64 (Int.tmod (IntKind.u64.wrap (a0)) 281474976710656)) (a1.extract 0 ((ji3) : Int).toNat) bt141.1 bt149.1 true)) else (footwaylaw01_MacBack.j0 k (wrap64 (Int.tmod (IntKind.u64.wrap (a0)) 281474976710656)) (a1.extract 0 ((ji3) : Int).toNat) bt141.1 bt149.1 true)) else (footwaylaw01_MacBack.j0 k (wrap64 (Int.tmod (IntKind.u64.wrap (a0)) 281474976710656)) (a1.extract 0 ((ji3) : Int).toNat) bt141.1 bt149.1 true)) else (footwaylaw01_MacBack.j0 k (wrap64 (Int.tmod (IntKind.u64.wrap (a0)) 281474976710656)) (a1.extract 0 ((ji3) : Int).toNat) bt141.1 bt149.1 true)) else (footwaylaw01_MacBack.j0 k (wrap64 (Int.tmod (IntKind.u64.wrap (a0)) 281474976710656)) (a1.extract 0 ((ji3) : Int).toNat) bt141.1 bt149.1 true))))))) else (none)) else (none)) = some r := by first | (rw [hji3] at H; exact H) | (simp only [hji3] at H ⊢; exact H)
  (try (have hji3h : ji3 ≤ 30 := by (rw [← hji3]; unfold mn; (repeat' split) <;> omega)))
  (try (have hji3g : ji3 ≤ 64 := by omega))
  (try (have hji3l : 0 ≤ ji3 := by (rw [← hji3]; unfold mn; (repeat' split) <;> omega)))
  (try (have hji3m : 0 ≤ ji3 := by omega))
  have hji3_ : (if 30 < (a1.size : Int) then 30 else (a1.size : Int)) = ji3 := hji3
  by_cases c4 : 0 ≤ (ji3)
  · rw [if_pos c4] at H
    have c4b0 := eq_true c4
    have c4b1 : decide (0 ≤ (ji3)) = true := decide_eq_true c4
    clear c4
    by_cases c5 : (ji3) ≤ (a1.size : Int)
    · rw [if_pos c5] at H
      have c5b0 := eq_true c5
      have c5b1 : decide ((ji3) ≤ (a1.size : Int)) = true := decide_eq_true c5
      clear c5
      replace H := Option.bind_eq_some_iff.mp H
      obtain ⟨⟨t141, t142⟩, A60, H⟩ := H
      replace H : ((mac_Print.f (wrap64 (Int.tmod (IntKind.u64.wrap (a0)) 281474976710656))).bind fun bt143 => ((mac_Of.f k t141).bind fun bt145 => ((mac_Parse.f bt143.1).bind fun bt147 => ((mac_Class.f (wrap64 (Int.tmod (IntKind.u64.wrap (a0)) 281474976710656))).bind fun bt149 => (if t142 = 0 then (if bt143.2 = 0 then (if bt145.2 = 0 then (if bt147.2 = 0 then (if bt149.2 = 0 then (if bt145.1 = (wrap64 (Int.tmod (IntKind.u64.wrap (a0)) 281474976710656)) then (if bt147.1 = (wrap64 (Int.tmod (IntKind.u64.wrap (a0)) 281474976710656)) then (if (t141.size : Int) = 6 then (if (bt143.1.size : Int) = 17 then ((footwaylaw01_alive.f).bind fun t151 => (footwaylaw01_MacBack.j0 k (wrap64 (Int.tmod (IntKind.u64.wrap (a0)) 281474976710656)) (a1.extract 0 ((ji3) : Int).toNat) t141 bt149.1 (!t151))) else (footwaylaw01_MacBack.j0 k (wrap64 (Int.tmod (IntKind.u64.wrap (a0)) 281474976710656)) (a1.extract 0 ((ji3) : Int).toNat) t141 bt149.1 true)) else (footwaylaw01_MacBack.j0 k (wrap64 (Int.tmod (IntKind.u64.wrap (a0)) 281474976710656)) (a1.extract 0 ((ji3) : Int).toNat) t141 bt149.1 true)) else (footwaylaw01_MacBack.j0 k (wrap64 (Int.tmod (IntKind.u64.wrap (a0)) 281474976710656)) (a1.extract 0 ((ji3) : Int).toNat) t141 bt149.1 true)) else (footwaylaw01_MacBack.j0 k (wrap64 (Int.tmod (IntKind.u64.wrap (a0)) 281474976710656)) (a1.extract 0 ((ji3) : Int).toNat) t141 bt149.1 true)) else (footwaylaw01_MacBack.j0 k (wrap64 (Int.tmod (IntKind.u64.wrap (a0)) 281474976710656)) (a1.extract 0 ((ji3) : Int).toNat) t141 bt149.1 true)) else (footwaylaw01_MacBack.j0 k (wrap64 (Int.tmod (IntKind.u64.wrap (a0)) 281474976710656)) (a1.extract 0 ((ji3) : Int).toNat) t141 bt149.1 true)) else (footwaylaw01_MacBack.j0 k (wrap64 (Int.tmod (IntKind.u64.wrap (a0)) 281474976710656)) (a1.extract 0 ((ji3) : Int).toNat) t141 bt149.1 true)) else (footwaylaw01_MacBack.j0 k (wrap64 (Int.tmod (IntKind.u64.wrap (a0)) 281474976710656)) (a1.extract 0 ((ji3) : Int).toNat) t141 bt149.1 true)) else (footwaylaw01_MacBack.j0 k (wrap64 (Int.tmod (IntKind.u64.wrap (a0)) 281474976710656)) (a1.extract 0 ((ji3) : Int).toNat) t141 bt149.1 true)))))) = some r := H
      have A6 := Aside0.mk A60
      clear A60
      replace H := Option.bind_eq_some_iff.mp H
      obtain ⟨⟨t143, t144⟩, A70, H⟩ := H
      replace H : ((mac_Of.f k t141).bind fun bt145 => ((mac_Parse.f t143).bind fun bt147 => ((mac_Class.f (wrap64 (Int.tmod (IntKind.u64.wrap (a0)) 281474976710656))).bind fun bt149 => (if t142 = 0 then (if t144 = 0 then (if bt145.2 = 0 then (if bt147.2 = 0 then (if bt149.2 = 0 then (if bt145.1 = (wrap64 (Int.tmod (IntKind.u64.wrap (a0)) 281474976710656)) then (if bt147.1 = (wrap64 (Int.tmod (IntKind.u64.wrap (a0)) 281474976710656)) then (if (t141.size : Int) = 6 then (if (t143.size : Int) = 17 then ((footwaylaw01_alive.f).bind fun t151 => (footwaylaw01_MacBack.j0 k (wrap64 (Int.tmod (IntKind.u64.wrap (a0)) 281474976710656)) (a1.extract 0 ((ji3) : Int).toNat) t141 bt149.1 (!t151))) else (footwaylaw01_MacBack.j0 k (wrap64 (Int.tmod (IntKind.u64.wrap (a0)) 281474976710656)) (a1.extract 0 ((ji3) : Int).toNat) t141 bt149.1 true)) else (footwaylaw01_MacBack.j0 k (wrap64 (Int.tmod (IntKind.u64.wrap (a0)) 281474976710656)) (a1.extract 0 ((ji3) : Int).toNat) t141 bt149.1 true)) else (footwaylaw01_MacBack.j0 k (wrap64 (Int.tmod (IntKind.u64.wrap (a0)) 281474976710656)) (a1.extract 0 ((ji3) : Int).toNat) t141 bt149.1 true)) else (footwaylaw01_MacBack.j0 k (wrap64 (Int.tmod (IntKind.u64.wrap (a0)) 281474976710656)) (a1.extract 0 ((ji3) : Int).toNat) t141 bt149.1 true)) else (footwaylaw01_MacBack.j0 k (wrap64 (Int.tmod (IntKind.u64.wrap (a0)) 281474976710656)) (a1.extract 0 ((ji3) : Int).toNat) t141 bt149.1 true)) else (footwaylaw01_MacBack.j0 k (wrap64 (Int.tmod (IntKind.u64.wrap (a0)) 281474976710656)) (a1.extract 0 ((ji3) : Int).toNat) t141 bt149.1 true)) else (footwaylaw01_MacBack.j0 k (wrap64 (Int.tmod (IntKind.u64.wrap (a0)) 281474976710656)) (a1.extract 0 ((ji3) : Int).toNat) t141 bt149.1 true)) else (footwaylaw01_MacBack.j0 k (wrap64 (Int.tmod (IntKind.u64.wrap (a0)) 281474976710656)) (a1.extract 0 ((ji3) : Int).toNat) t141 bt149.1 true)) else (footwaylaw01_MacBack.j0 k (wrap64 (Int.tmod (IntKind.u64.wrap (a0)) 281474976710656)) (a1.extract 0 ((ji3) : Int).toNat) t141 bt149.1 true))))) = some r := H
      have A7 := Aside0.mk A70
      clear A70
      replace H := Option.bind_eq_some_iff.mp H
      obtain ⟨⟨t145, t146⟩, A80, H⟩ := H
      replace H : ((mac_Parse.f t143).bind fun bt147 => ((mac_Class.f (wrap64 (Int.tmod (IntKind.u64.wrap (a0)) 281474976710656))).bind fun bt149 => (if t142 = 0 then (if t144 = 0 then (if t146 = 0 then (if bt147.2 = 0 then (if bt149.2 = 0 then (if t145 = (wrap64 (Int.tmod (IntKind.u64.wrap (a0)) 281474976710656)) then (if bt147.1 = (wrap64 (Int.tmod (IntKind.u64.wrap (a0)) 281474976710656)) then (if (t141.size : Int) = 6 then (if (t143.size : Int) = 17 then ((footwaylaw01_alive.f).bind fun t151 => (footwaylaw01_MacBack.j0 k (wrap64 (Int.tmod (IntKind.u64.wrap (a0)) 281474976710656)) (a1.extract 0 ((ji3) : Int).toNat) t141 bt149.1 (!t151))) else (footwaylaw01_MacBack.j0 k (wrap64 (Int.tmod (IntKind.u64.wrap (a0)) 281474976710656)) (a1.extract 0 ((ji3) : Int).toNat) t141 bt149.1 true)) else (footwaylaw01_MacBack.j0 k (wrap64 (Int.tmod (IntKind.u64.wrap (a0)) 281474976710656)) (a1.extract 0 ((ji3) : Int).toNat) t141 bt149.1 true)) else (footwaylaw01_MacBack.j0 k (wrap64 (Int.tmod (IntKind.u64.wrap (a0)) 281474976710656)) (a1.extract 0 ((ji3) : Int).toNat) t141 bt149.1 true)) else (footwaylaw01_MacBack.j0 k (wrap64 (Int.tmod (IntKind.u64.wrap (a0)) 281474976710656)) (a1.extract 0 ((ji3) : Int).toNat) t141 bt149.1 true)) else (footwaylaw01_MacBack.j0 k (wrap64 (Int.tmod (IntKind.u64.wrap (a0)) 281474976710656)) (a1.extract 0 ((ji3) : Int).toNat) t141 bt149.1 true)) else (footwaylaw01_MacBack.j0 k (wrap64 (Int.tmod (IntKind.u64.wrap (a0)) 281474976710656)) (a1.extract 0 ((ji3) : Int).toNat) t141 bt149.1 true)) else (footwaylaw01_MacBack.j0 k (wrap64 (Int.tmod (IntKind.u64.wrap (a0)) 281474976710656)) (a1.extract 0 ((ji3) : Int).toNat) t141 bt149.1 true)) else (footwaylaw01_MacBack.j0 k (wrap64 (Int.tmod (IntKind.u64.wrap (a0)) 281474976710656)) (a1.extract 0 ((ji3) : Int).toNat) t141 bt149.1 true)) else (footwaylaw01_MacBack.j0 k (wrap64 (Int.tmod (IntKind.u64.wrap (a0)) 281474976710656)) (a1.extract 0 ((ji3) : Int).toNat) t141 bt149.1 true)))) = some r := H
      have A8 := Aside0.mk A80
      clear A80
      replace H := Option.bind_eq_some_iff.mp H
      obtain ⟨⟨t147, t148⟩, A90, H⟩ := H
      replace H : ((mac_Class.f (wrap64 (Int.tmod (IntKind.u64.wrap (a0)) 281474976710656))).bind fun bt149 => (if t142 = 0 then (if t144 = 0 then (if t146 = 0 then (if t148 = 0 then (if bt149.2 = 0 then (if t145 = (wrap64 (Int.tmod (IntKind.u64.wrap (a0)) 281474976710656)) then (if t147 = (wrap64 (Int.tmod (IntKind.u64.wrap (a0)) 281474976710656)) then (if (t141.size : Int) = 6 then (if (t143.size : Int) = 17 then ((footwaylaw01_alive.f).bind fun t151 => (footwaylaw01_MacBack.j0 k (wrap64 (Int.tmod (IntKind.u64.wrap (a0)) 281474976710656)) (a1.extract 0 ((ji3) : Int).toNat) t141 bt149.1 (!t151))) else (footwaylaw01_MacBack.j0 k (wrap64 (Int.tmod (IntKind.u64.wrap (a0)) 281474976710656)) (a1.extract 0 ((ji3) : Int).toNat) t141 bt149.1 true)) else (footwaylaw01_MacBack.j0 k (wrap64 (Int.tmod (IntKind.u64.wrap (a0)) 281474976710656)) (a1.extract 0 ((ji3) : Int).toNat) t141 bt149.1 true)) else (footwaylaw01_MacBack.j0 k (wrap64 (Int.tmod (IntKind.u64.wrap (a0)) 281474976710656)) (a1.extract 0 ((ji3) : Int).toNat) t141 bt149.1 true)) else (footwaylaw01_MacBack.j0 k (wrap64 (Int.tmod (IntKind.u64.wrap (a0)) 281474976710656)) (a1.extract 0 ((ji3) : Int).toNat) t141 bt149.1 true)) else (footwaylaw01_MacBack.j0 k (wrap64 (Int.tmod (IntKind.u64.wrap (a0)) 281474976710656)) (a1.extract 0 ((ji3) : Int).toNat) t141 bt149.1 true)) else (footwaylaw01_MacBack.j0 k (wrap64 (Int.tmod (IntKind.u64.wrap (a0)) 281474976710656)) (a1.extract 0 ((ji3) : Int).toNat) t141 bt149.1 true)) else (footwaylaw01_MacBack.j0 k (wrap64 (Int.tmod (IntKind.u64.wrap (a0)) 281474976710656)) (a1.extract 0 ((ji3) : Int).toNat) t141 bt149.1 true)) else (footwaylaw01_MacBack.j0 k (wrap64 (Int.tmod (IntKind.u64.wrap (a0)) 281474976710656)) (a1.extract 0 ((ji3) : Int).toNat) t141 bt149.1 true)) else (footwaylaw01_MacBack.j0 k (wrap64 (Int.tmod (IntKind.u64.wrap (a0)) 281474976710656)) (a1.extract 0 ((ji3) : Int).toNat) t141 bt149.1 true))) = some r := H
      have A9 := Aside0.mk A90
      clear A90
      replace H := Option.bind_eq_some_iff.mp H
      obtain ⟨⟨t149, t150⟩, A100, H⟩ := H
      replace H : (if t142 = 0 then (if t144 = 0 then (if t146 = 0 then (if t148 = 0 then (if t150 = 0 then (if t145 = (wrap64 (Int.tmod (IntKind.u64.wrap (a0)) 281474976710656)) then (if t147 = (wrap64 (Int.tmod (IntKind.u64.wrap (a0)) 281474976710656)) then (if (t141.size : Int) = 6 then (if (t143.size : Int) = 17 then ((footwaylaw01_alive.f).bind fun t151 => (footwaylaw01_MacBack.j0 k (wrap64 (Int.tmod (IntKind.u64.wrap (a0)) 281474976710656)) (a1.extract 0 ((ji3) : Int).toNat) t141 t149 (!t151))) else (footwaylaw01_MacBack.j0 k (wrap64 (Int.tmod (IntKind.u64.wrap (a0)) 281474976710656)) (a1.extract 0 ((ji3) : Int).toNat) t141 t149 true)) else (footwaylaw01_MacBack.j0 k (wrap64 (Int.tmod (IntKind.u64.wrap (a0)) 281474976710656)) (a1.extract 0 ((ji3) : Int).toNat) t141 t149 true)) else (footwaylaw01_MacBack.j0 k (wrap64 (Int.tmod (IntKind.u64.wrap (a0)) 281474976710656)) (a1.extract 0 ((ji3) : Int).toNat) t141 t149 true)) else (footwaylaw01_MacBack.j0 k (wrap64 (Int.tmod (IntKind.u64.wrap (a0)) 281474976710656)) (a1.extract 0 ((ji3) : Int).toNat) t141 t149 true)) else (footwaylaw01_MacBack.j0 k (wrap64 (Int.tmod (IntKind.u64.wrap (a0)) 281474976710656)) (a1.extract 0 ((ji3) : Int).toNat) t141 t149 true)) else (footwaylaw01_MacBack.j0 k (wrap64 (Int.tmod (IntKind.u64.wrap (a0)) 281474976710656)) (a1.extract 0 ((ji3) : Int).toNat) t141 t149 true)) else (footwaylaw01_MacBack.j0 k (wrap64 (Int.tmod (IntKind.u64.wrap (a0)) 281474976710656)) (a1.extract 0 ((ji3) : Int).toNat) t141 t149 true)) else (footwaylaw01_MacBack.j0 k (wrap64 (Int.tmod (IntKind.u64.wrap (a0)) 281474976710656)) (a1.extract 0 ((ji3) : Int).toNat) t141 t149 true)) else (footwaylaw01_MacBack.j0 k (wrap64 (Int.tmod (IntKind.u64.wrap (a0)) 281474976710656)) (a1.extract 0 ((ji3) : Int).toNat) t141 t149 true)) = some r := H
      have A10 := Aside0.mk A100
      clear A100
      have HC11 := Aside0.mk H
      clear H
      go_enter Try.func9, Try.ntmps9
      go_upto_region 8 with (first | ((with_reducible refine gate_callee (f := 33) rfl ?_); refine goesL_ (some 30) rfl rfl Try.func33 (by kernel_rfl) rfl #[.int .i64 (wrap64 (Int.tmod (IntKind.u64.wrap (a0)) 281474976710656))] rfl (by (try simp only [List.map_toArray, List.map_cons, List.map_nil]); first | done | rfl | (simp only [List.length_drop, List.length_take]; rfl)) ?_; (with_reducible refine (mac_Bytes.calls (wrap64 (Int.tmod (IntKind.u64.wrap (a0)) 281474976710656)) t141 t142 _ A6.out).mono ?_); rintro e w12 ⟨rfl, hb⟩; refine ⟨_, rfl, ?_⟩; have n0_ := Aside0.mk (below_step (by repeat (first | (with_reducible first | exact HB.out | apply below_alloc | apply pw_below_drewN | apply below_drew1) | exact HB.out)) hb); clear HB; have HB := n0_; clear n0_; (try clear hb); (try clear hb2); (try clear hk); (try clear hi)) | ((with_reducible refine gate_callee (f := 34) rfl ?_); refine goesL_ (some 35) rfl rfl Try.func34 (by kernel_rfl) rfl #[.int .i64 (wrap64 (Int.tmod (IntKind.u64.wrap (a0)) 281474976710656))] rfl (by (try simp only [List.map_toArray, List.map_cons, List.map_nil]); first | done | rfl | (simp only [List.length_drop, List.length_take]; rfl)) ?_; (with_reducible refine (mac_Print.calls (wrap64 (Int.tmod (IntKind.u64.wrap (a0)) 281474976710656)) t143 t144 _ A7.out).mono ?_); rintro e w13 ⟨rfl, hb⟩; refine ⟨_, rfl, ?_⟩; have n0_ := Aside0.mk (below_step (by repeat (first | (with_reducible first | exact HB.out | apply below_alloc | apply pw_below_drewN | apply below_drew1) | exact HB.out)) hb); clear HB; have HB := n0_; clear n0_; (try clear hb); (try clear hb2); (try clear hk); (try clear hi)) | ((with_reducible refine gate_callee (f := 28) rfl ?_); refine goesL_ (some 40) rfl rfl Try.func28 (by kernel_rfl) rfl #[.string t141] rfl (by (try simp only [List.map_toArray, List.map_cons, List.map_nil]); first | done | rfl | (simp only [List.length_drop, List.length_take]; rfl)) ?_; (with_reducible refine (mac_Of.calls k t141 t145 t146 _ A8.out).mono ?_); rintro e w' ⟨rfl, ⟨nd, rfl⟩⟩; refine ⟨_, rfl, ?_⟩) | ((with_reducible refine gate_callee (f := 29) rfl ?_); refine goesL_ (some 45) rfl rfl Try.func29 (by kernel_rfl) rfl #[.string t143] rfl (by (try simp only [List.map_toArray, List.map_cons, List.map_nil]); first | done | rfl | (simp only [List.length_drop, List.length_take]; rfl)) ?_; (with_reducible refine (mac_Parse.calls t143 t147 t148 _ A9.out).mono ?_); rintro e w14 ⟨rfl, hb⟩; refine ⟨_, rfl, ?_⟩; have n0_ := Aside0.mk (below_step (by repeat (first | (with_reducible first | exact HB.out | apply below_alloc | apply pw_below_drewN | apply below_drew1) | exact HB.out)) hb); clear HB; have HB := n0_; clear n0_; (try clear hb); (try clear hb2); (try clear hk); (try clear hi)) | ((with_reducible refine gate_callee (f := 21) rfl ?_); refine goesL_ (some 50) rfl rfl Try.func21 (by kernel_rfl) rfl #[.int .i64 (wrap64 (Int.tmod (IntKind.u64.wrap (a0)) 281474976710656))] rfl (by (try simp only [List.map_toArray, List.map_cons, List.map_nil]); first | done | rfl | (simp only [List.length_drop, List.length_take]; rfl)) ?_; (with_reducible refine (mac_Class.calls (wrap64 (Int.tmod (IntKind.u64.wrap (a0)) 281474976710656)) t149 t150 _ A10.out).mono ?_); rintro e w' ⟨rfl, ⟨nd, rfl⟩⟩; refine ⟨_, rfl, ?_⟩))
      (try simp only [Act.put, List.setIfInBounds_toArray, List.set_cons_zero, List.set_cons_succ])
      go_cut [94] (fun v94 wc => ∃ (kq : Nat) (x94_10 : Bool), v94 = .bool x94_10 ∧ Aside0 (footwaylaw01_MacBack.j0 kq (wrap64 (Int.tmod (IntKind.u64.wrap (a0)) 281474976710656)) (a1.extract 0 ((ji3) : Int).toNat) t141 t149 x94_10 = some r) ∧ Aside0 (kq ≤ k) ∧ Aside0 (Below w.heap.size w wc))
      case first =>
        have H := HC11.out
        clear HC11
        by_cases c15 : t142 = 0
        · rw [if_pos c15] at H
          have c15b0 : (t142 == 0) = true := beq_iff_eq.mpr c15
          have c15b1 : (t142 != 0) = false := bne_eq_false_iff_eq.mpr c15
          clear c15
          (first | rw [c15b0] | (simp only [i64_w, i32_w]; rw [c15b0]) | skip)
          by_cases c16 : t144 = 0
          · rw [if_pos c16] at H
            have c16b0 : (t144 == 0) = true := beq_iff_eq.mpr c16
            have c16b1 : (t144 != 0) = false := bne_eq_false_iff_eq.mpr c16
            clear c16
            by_cases c17 : t146 = 0
            · rw [if_pos c17] at H
              have c17b0 : (t146 == 0) = true := beq_iff_eq.mpr c17
              have c17b1 : (t146 != 0) = false := bne_eq_false_iff_eq.mpr c17
              clear c17
              by_cases c18 : t148 = 0
              · rw [if_pos c18] at H
                have c18b0 : (t148 == 0) = true := beq_iff_eq.mpr c18
                have c18b1 : (t148 != 0) = false := bne_eq_false_iff_eq.mpr c18
                clear c18
                by_cases c19 : t150 = 0
                · rw [if_pos c19] at H
                  have c19b0 : (t150 == 0) = true := beq_iff_eq.mpr c19
                  have c19b1 : (t150 != 0) = false := bne_eq_false_iff_eq.mpr c19
                  clear c19
                  by_cases c20 : t145 = (wrap64 (Int.tmod (IntKind.u64.wrap (a0)) 281474976710656))
                  · rw [if_pos c20] at H
                    have c20b0 : (t145 == (wrap64 (Int.tmod (IntKind.u64.wrap (a0)) 281474976710656))) = true := beq_iff_eq.mpr c20
                    have c20b1 : (t145 != (wrap64 (Int.tmod (IntKind.u64.wrap (a0)) 281474976710656))) = false := bne_eq_false_iff_eq.mpr c20
                    clear c20
                    by_cases c21 : t147 = (wrap64 (Int.tmod (IntKind.u64.wrap (a0)) 281474976710656))
                    · rw [if_pos c21] at H
                      have c21b0 : (t147 == (wrap64 (Int.tmod (IntKind.u64.wrap (a0)) 281474976710656))) = true := beq_iff_eq.mpr c21
                      have c21b1 : (t147 != (wrap64 (Int.tmod (IntKind.u64.wrap (a0)) 281474976710656))) = false := bne_eq_false_iff_eq.mpr c21
                      clear c21
                      by_cases c22 : (t141.size : Int) = 6
                      · rw [if_pos c22] at H
                        have c22b0 : ((t141.size : Int) == 6) = true := beq_iff_eq.mpr c22
                        have c22b1 : ((t141.size : Int) != 6) = false := bne_eq_false_iff_eq.mpr c22
                        clear c22
                        by_cases c23 : (t143.size : Int) = 17
                        · rw [if_pos c23] at H
                          have c23b0 : ((t143.size : Int) == 17) = true := beq_iff_eq.mpr c23
                          have c23b1 : ((t143.size : Int) != 17) = false := bne_eq_false_iff_eq.mpr c23
                          clear c23
                          replace H := Option.bind_eq_some_iff.mp H
                          obtain ⟨t151, A240, H⟩ := H
                          replace H : (footwaylaw01_MacBack.j0 k (wrap64 (Int.tmod (IntKind.u64.wrap (a0)) 281474976710656)) (a1.extract 0 ((ji3) : Int).toNat) t141 t149 (!t151)) = some r := H
                          have A24 := Aside0.mk A240
                          clear A240
                          have H' := Aside0.mk H
                          clear H
                          go_wp2_with (first | (go_at_call 31; (with_reducible refine (footwaylaw01_alive.calls  t151 _ A24.out).mono ?_); rintro e w25 ⟨rfl, hb⟩; have n0_ := Aside0.mk (below_step (by repeat (first | (with_reducible first | exact HB.out | apply below_alloc | apply pw_below_drewN | apply below_drew1) | exact HB.out)) hb); clear HB; have HB := n0_; clear n0_; (try clear hb); (try clear hb2); (try clear hk); (try clear hi)))
                          go_meet
                          case rel => exact ⟨_, (!t151), (by first | rfl | (simp; done) | (simp [*]; done)), H', ⟨by first | omega | exact Nat.le_refl _⟩, ⟨by repeat (first | (with_reducible first | exact HB.out | apply below_alloc | apply pw_below_drewN | apply below_drew1) | exact HB.out)⟩⟩
                        · rw [if_neg c23] at H
                          have c23b0 : ((t143.size : Int) == 17) = false := beq_eq_false_iff_ne.mpr c23
                          have c23b1 : ((t143.size : Int) != 17) = true := bne_iff_ne.mpr c23
                          have H' := Aside0.mk H
                          clear H
                          go_wp2
                          go_meet
                          case rel => exact ⟨_, (true), (by first | rfl | (simp; done) | (simp [*]; done)), H', ⟨by first | omega | exact Nat.le_refl _⟩, ⟨by repeat (first | (with_reducible first | exact HB.out | apply below_alloc | apply pw_below_drewN | apply below_drew1) | exact HB.out)⟩⟩
                      · rw [if_neg c22] at H
                        have c22b0 : ((t141.size : Int) == 6) = false := beq_eq_false_iff_ne.mpr c22
                        have c22b1 : ((t141.size : Int) != 6) = true := bne_iff_ne.mpr c22
                        have H' := Aside0.mk H
                        clear H
                        go_wp2
                        go_meet
                        case rel => exact ⟨_, (true), (by first | rfl | (simp; done) | (simp [*]; done)), H', ⟨by first | omega | exact Nat.le_refl _⟩, ⟨by repeat (first | (with_reducible first | exact HB.out | apply below_alloc | apply pw_below_drewN | apply below_drew1) | exact HB.out)⟩⟩
                    · rw [if_neg c21] at H
                      have c21b0 : (t147 == (wrap64 (Int.tmod (IntKind.u64.wrap (a0)) 281474976710656))) = false := beq_eq_false_iff_ne.mpr c21
                      have c21b1 : (t147 != (wrap64 (Int.tmod (IntKind.u64.wrap (a0)) 281474976710656))) = true := bne_iff_ne.mpr c21
                      have H' := Aside0.mk H
                      clear H
                      go_wp2
                      go_meet
                      case rel => exact ⟨_, (true), (by first | rfl | (simp; done) | (simp [*]; done)), H', ⟨by first | omega | exact Nat.le_refl _⟩, ⟨by repeat (first | (with_reducible first | exact HB.out | apply below_alloc | apply pw_below_drewN | apply below_drew1) | exact HB.out)⟩⟩
                  · rw [if_neg c20] at H
                    have c20b0 : (t145 == (wrap64 (Int.tmod (IntKind.u64.wrap (a0)) 281474976710656))) = false := beq_eq_false_iff_ne.mpr c20
                    have c20b1 : (t145 != (wrap64 (Int.tmod (IntKind.u64.wrap (a0)) 281474976710656))) = true := bne_iff_ne.mpr c20
                    have H' := Aside0.mk H
                    clear H
                    go_wp2
                    go_meet
                    case rel => exact ⟨_, (true), (by first | rfl | (simp; done) | (simp [*]; done)), H', ⟨by first | omega | exact Nat.le_refl _⟩, ⟨by repeat (first | (with_reducible first | exact HB.out | apply below_alloc | apply pw_below_drewN | apply below_drew1) | exact HB.out)⟩⟩
                · rw [if_neg c19] at H
                  have c19b0 : (t150 == 0) = false := beq_eq_false_iff_ne.mpr c19
                  have c19b1 : (t150 != 0) = true := bne_iff_ne.mpr c19
                  have H' := Aside0.mk H
                  clear H
                  go_wp2
                  go_meet
                  case rel => exact ⟨_, (true), (by first | rfl | (simp; done) | (simp [*]; done)), H', ⟨by first | omega | exact Nat.le_refl _⟩, ⟨by repeat (first | (with_reducible first | exact HB.out | apply below_alloc | apply pw_below_drewN | apply below_drew1) | exact HB.out)⟩⟩
              · rw [if_neg c18] at H
                have c18b0 : (t148 == 0) = false := beq_eq_false_iff_ne.mpr c18
                have c18b1 : (t148 != 0) = true := bne_iff_ne.mpr c18
                have H' := Aside0.mk H
                clear H
                go_wp2
                go_meet
                case rel => exact ⟨_, (true), (by first | rfl | (simp; done) | (simp [*]; done)), H', ⟨by first | omega | exact Nat.le_refl _⟩, ⟨by repeat (first | (with_reducible first | exact HB.out | apply below_alloc | apply pw_below_drewN | apply below_drew1) | exact HB.out)⟩⟩
            · rw [if_neg c17] at H
              have c17b0 : (t146 == 0) = false := beq_eq_false_iff_ne.mpr c17
              have c17b1 : (t146 != 0) = true := bne_iff_ne.mpr c17
              have H' := Aside0.mk H
              clear H
              go_wp2
              go_meet
              case rel => exact ⟨_, (true), (by first | rfl | (simp; done) | (simp [*]; done)), H', ⟨by first | omega | exact Nat.le_refl _⟩, ⟨by repeat (first | (with_reducible first | exact HB.out | apply below_alloc | apply pw_below_drewN | apply below_drew1) | exact HB.out)⟩⟩
          · rw [if_neg c16] at H
            have c16b0 : (t144 == 0) = false := beq_eq_false_iff_ne.mpr c16
            have c16b1 : (t144 != 0) = true := bne_iff_ne.mpr c16
            have H' := Aside0.mk H
            clear H
            go_wp2
            go_meet
            case rel => exact ⟨_, (true), (by first | rfl | (simp; done) | (simp [*]; done)), H', ⟨by first | omega | exact Nat.le_refl _⟩, ⟨by repeat (first | (with_reducible first | exact HB.out | apply below_alloc | apply pw_below_drewN | apply below_drew1) | exact HB.out)⟩⟩
        · rw [if_neg c15] at H
          have c15b0 : (t142 == 0) = false := beq_eq_false_iff_ne.mpr c15
          have c15b1 : (t142 != 0) = true := bne_iff_ne.mpr c15
          (first | rw [c15b0] | (simp only [i64_w, i32_w]; rw [c15b0]) | skip)
          have H' := Aside0.mk H
          clear H
          go_wp2
          go_meet
          case rel => exact ⟨_, (true), (by first | rfl | (simp; done) | (simp [*]; done)), H', ⟨by first | omega | exact Nat.le_refl _⟩, ⟨by repeat (first | (with_reducible first | exact HB.out | apply below_alloc | apply pw_below_drewN | apply below_drew1) | exact HB.out)⟩⟩
      case rest =>
        clear HC11
        try clear c1
        try clear c2
        try clear p2
        try clear c3
        try clear c4
        try clear c4b0
        try clear c4b1
        try clear c5
        try clear c5b0
        try clear c5b1
        try clear p6
        try clear c9
        try clear c15
        try clear c15b0
        try clear c15b1
        try clear c16
        try clear c16b0
        try clear c16b1
        try clear c17
        try clear c17b0
        try clear c17b1
        try clear c18
        try clear c18b0
        try clear c18b1
        try clear c19
        try clear c19b0
        try clear c19b1
        try clear c20
        try clear c20b0
        try clear c20b1
        try clear c21
        try clear c21b0
        try clear c21b1
        try clear c22
        try clear c22b0
        try clear c22b1
        try clear c23
        try clear c23b0
        try clear c23b1
        obtain ⟨kq, x94_10, rfl, HA, HJ10, HB⟩ := hcut
        cases kq with
        | zero => exact absurd HA.out (by simp [footwaylaw01_MacBack.j0])
        | succ kj10 =>
          have H := HA.out
          clear HA
          simp only [footwaylaw01_MacBack.j0] at H
          by_cases c26 : x94_10 = true
          · subst c26
            have H1 : (some false) = some r := by rw [if_pos rfl] at H; exact H
            clear H
            have H := H1
            clear H1
            obtain rfl := Option.some.inj H
            go_wp2
            go_ret
            exact ⟨by first | rfl | (simp [errW_none, errW_some] <;> rfl) | (simp only [← hji3]; first | rfl | (simp [errW_none, errW_some] <;> rfl)) | (simp [*, errW_none, errW_some] <;> rfl), by repeat (first | (with_reducible first | exact HB.out | apply below_alloc | apply pw_below_drewN | apply below_drew1) | exact HB.out)⟩
          · replace c26 := Bool.eq_false_iff.mpr c26
            subst c26
            have H1 : (if 0 < (t141.size : Int) then (if ((t149 == 0) != ((Int.tmod (bt t141 0) 2) == 0)) = true then (footwaylaw01_MacBack.j1 kj10 (a1.extract 0 ((ji3) : Int).toNat) true) else (if (wrap64 (Int.tmod (IntKind.u64.wrap (a0)) 281474976710656)) ≥ 1652522221568 then (footwaylaw01_MacBack.j1 kj10 (a1.extract 0 ((ji3) : Int).toNat) ((t149 == 2) != (decide ((wrap64 (Int.tmod (IntKind.u64.wrap (a0)) 281474976710656)) < 1652522221584)))) else (footwaylaw01_MacBack.j1 kj10 (a1.extract 0 ((ji3) : Int).toNat) ((t149 == 2) != false)))) else (none)) = some r := by rw [if_neg (show ¬ (false = true) by decide)] at H; exact H
            clear H
            have H := H1
            clear H1
            have HC27 := Aside0.mk H
            clear H
            go_upto_region 10 with (fail)
            go_cut [112] (fun v112 wc => ∃ (kq : Nat) (x112_26 : Bool), v112 = .bool x112_26 ∧ Aside0 (footwaylaw01_MacBack.j1 kq (a1.extract 0 ((ji3) : Int).toNat) x112_26 = some r) ∧ Aside0 (kq ≤ kj10) ∧ Aside0 (Below w.heap.size w wc))
            case first =>
              have H := HC27.out
              clear HC27
              by_cases c28 : 0 < (t141.size : Int)
              · rw [if_pos c28] at H
                have c28b0 : decide (0 < (t141.size : Int)) = true := decide_eq_true c28
                have c28b1 : decide (0 < t141.size) = true := decide_eq_true (by omega)
                clear c28
                (first | rw [c28b0] | (simp only [i64_w, i32_w]; rw [c28b0]) | skip)
                by_cases c30 : ((t149 == 0) != ((Int.tmod (bt t141 0) 2) == 0)) = true
                · rw [if_pos c30] at H
                  have c30b0 : ((t149 == 0) != ((Int.tmod (bt t141 0) 2) == 0)) = true := c30
                  (try (have c30b1 : decide ((t149 == 0) = ((Int.tmod (bt t141 0) 2) == 0)) = false := by simpa using c30))
                  (try (have c30b2 : ((t149 == 0) == ((Int.tmod (bt t141 0) 2) == 0)) = false := by simpa using c30))
                  (try (have c30b3 : ¬ ((t149 == 0) = ((Int.tmod (bt t141 0) 2) == 0)) := by simpa using c30))
                  clear c30
                  have H' := Aside0.mk H
                  clear H
                  have p29 : 0 ≤ (0 : Int) := (by omega)
                  have q29 : 0 < t141.size := (by have : (0 : Int) < (t141.size : Int) := of_decide_eq_true (by first | (with_reducible assumption) | assumption); omega)
                  have hx29 : ∀ h : 0 < t141.size, ((t141[0]'h).toNat : Int) = bt t141 0 := bt_at t141 0
                  clear p29
                  have qi29 : (0 < (t141.size : Int)) = True := eq_true (of_decide_eq_true (by first | (with_reducible assumption) | assumption))
                  replace q29 := eq_true q29
                  go_wp2
                  go_meet
                  case rel => exact ⟨_, (true), (by first | rfl | (simp; done) | (simp [*]; done)), H', ⟨by have := HJ10.out; first | omega | exact Nat.le_refl _⟩, ⟨by repeat (first | (with_reducible first | exact HB.out | apply below_alloc | apply pw_below_drewN | apply below_drew1) | exact HB.out)⟩⟩
                · rw [if_neg c30] at H
                  have c30b0 : ((t149 == 0) != ((Int.tmod (bt t141 0) 2) == 0)) = false := by simpa using c30
                  (try (have c30b1 : decide ((t149 == 0) = ((Int.tmod (bt t141 0) 2) == 0)) = true := by simpa using c30))
                  (try (have c30b2 : ((t149 == 0) == ((Int.tmod (bt t141 0) 2) == 0)) = true := by simpa using c30))
                  clear c30
                  by_cases c31 : (wrap64 (Int.tmod (IntKind.u64.wrap (a0)) 281474976710656)) ≥ 1652522221568
                  · rw [if_pos c31] at H
                    have c31b0 : decide (1652522221568 ≤ (wrap64 (Int.tmod (IntKind.u64.wrap (a0)) 281474976710656))) = true := decide_eq_true c31
                    clear c31
                    have H' := Aside0.mk H
                    clear H
                    have p29 : 0 ≤ (0 : Int) := (by omega)
                    have q29 : 0 < t141.size := (by have : (0 : Int) < (t141.size : Int) := of_decide_eq_true (by first | (with_reducible assumption) | assumption); omega)
                    have hx29 : ∀ h : 0 < t141.size, ((t141[0]'h).toNat : Int) = bt t141 0 := bt_at t141 0
                    clear p29
                    have qi29 : (0 < (t141.size : Int)) = True := eq_true (of_decide_eq_true (by first | (with_reducible assumption) | assumption))
                    replace q29 := eq_true q29
                    go_wp2
                    go_meet
                    case rel => exact ⟨_, (((t149 == 2) != (decide ((wrap64 (Int.tmod (IntKind.u64.wrap (a0)) 281474976710656)) < 1652522221584)))), (by first | rfl | (simp; done) | (simp [*]; done)), H', ⟨by have := HJ10.out; first | omega | exact Nat.le_refl _⟩, ⟨by repeat (first | (with_reducible first | exact HB.out | apply below_alloc | apply pw_below_drewN | apply below_drew1) | exact HB.out)⟩⟩
                  · rw [if_neg c31] at H
                    have c31b0 : decide (1652522221568 ≤ (wrap64 (Int.tmod (IntKind.u64.wrap (a0)) 281474976710656))) = false := decide_eq_false c31
                    clear c31
                    have H' := Aside0.mk H
                    clear H
                    have p29 : 0 ≤ (0 : Int) := (by omega)
                    have q29 : 0 < t141.size := (by have : (0 : Int) < (t141.size : Int) := of_decide_eq_true (by first | (with_reducible assumption) | assumption); omega)
                    have hx29 : ∀ h : 0 < t141.size, ((t141[0]'h).toNat : Int) = bt t141 0 := bt_at t141 0
                    clear p29
                    have qi29 : (0 < (t141.size : Int)) = True := eq_true (of_decide_eq_true (by first | (with_reducible assumption) | assumption))
                    replace q29 := eq_true q29
                    go_wp2
                    go_meet
                    case rel => exact ⟨_, (((t149 == 2) != false)), (by first | rfl | (simp; done) | (simp [*]; done)), H', ⟨by have := HJ10.out; first | omega | exact Nat.le_refl _⟩, ⟨by repeat (first | (with_reducible first | exact HB.out | apply below_alloc | apply pw_below_drewN | apply below_drew1) | exact HB.out)⟩⟩
              · rw [if_neg c28] at H
                exact absurd H (by simp)
            case rest =>
              clear HC27
              try clear c1
              try clear c2
              try clear p2
              try clear q2
              try clear hx2
              try clear qi2
              try clear c3
              try clear c4
              try clear c4b0
              try clear c4b1
              try clear c5
              try clear c5b0
              try clear c5b1
              try clear p6
              try clear c9
              try clear c15
              try clear c15b0
              try clear c15b1
              try clear c16
              try clear c16b0
              try clear c16b1
              try clear c17
              try clear c17b0
              try clear c17b1
              try clear c18
              try clear c18b0
              try clear c18b1
              try clear c19
              try clear c19b0
              try clear c19b1
              try clear c20
              try clear c20b0
              try clear c20b1
              try clear c21
              try clear c21b0
              try clear c21b1
              try clear c22
              try clear c22b0
              try clear c22b1
              try clear c23
              try clear c23b0
              try clear c23b1
              try clear c26
              try clear c28
              try clear c28b0
              try clear c28b1
              try clear c29
              try clear p29
              try clear q29
              try clear hx29
              try clear qi29
              try clear c30
              try clear c30b0
              try clear c30b1
              try clear c30b2
              try clear c31
              try clear c31b0
              try clear p2
              try clear p29
              try clear p6
              try clear q29
              obtain ⟨kq, x112_26, rfl, HA, HJ26, HB⟩ := hcut
              cases kq with
              | zero => exact absurd HA.out (by simp [footwaylaw01_MacBack.j1])
              | succ kj26 =>
                have H := HA.out
                clear HA
                simp only [footwaylaw01_MacBack.j1] at H
                by_cases c32 : x112_26 = true
                · subst c32
                  have H1 : (some false) = some r := by rw [if_pos rfl] at H; exact H
                  clear H
                  have H := H1
                  clear H1
                  obtain rfl := Option.some.inj H
                  go_wp2
                  go_ret
                  exact ⟨by first | rfl | (simp [errW_none, errW_some] <;> rfl) | (simp only [← hji3]; first | rfl | (simp [errW_none, errW_some] <;> rfl)) | (simp [*, errW_none, errW_some] <;> rfl), by repeat (first | (with_reducible first | exact HB.out | apply below_alloc | apply pw_below_drewN | apply below_drew1) | exact HB.out)⟩
                · replace c32 := Bool.eq_false_iff.mpr c32
                  subst c32
                  have H1 : ((mac_Parse.f (a1.extract 0 ((ji3) : Int).toNat)).bind fun bt152 => (if bt152.2 = 0 then ((mac_Print.f bt152.1).bind fun bt154 => (if bt154.2 = 0 then (some (bt154.1.toList == (a1.extract 0 ((ji3) : Int).toNat).toList)) else (some false))) else (some (bt152.1 == 0)))) = some r := by rw [if_neg (show ¬ (false = true) by decide)] at H; exact H
                  clear H
                  have H := H1
                  clear H1
                  replace H := Option.bind_eq_some_iff.mp H
                  obtain ⟨⟨t152, t153⟩, A330, H⟩ := H
                  replace H : (if t153 = 0 then ((mac_Print.f t152).bind fun bt154 => (if bt154.2 = 0 then (some (bt154.1.toList == (a1.extract 0 ((ji3) : Int).toNat).toList)) else (some false))) else (some (t152 == 0))) = some r := H
                  have A33 := Aside0.mk A330
                  clear A330
                  by_cases c34 : t153 = 0
                  · rw [if_pos c34] at H
                    have c34b0 : (t153 == 0) = true := beq_iff_eq.mpr c34
                    have c34b1 : (t153 != 0) = false := bne_eq_false_iff_eq.mpr c34
                    clear c34
                    replace H := Option.bind_eq_some_iff.mp H
                    obtain ⟨⟨t154, t155⟩, A350, H⟩ := H
                    replace H : (if t155 = 0 then (some (t154.toList == (a1.extract 0 ((ji3) : Int).toNat).toList)) else (some false)) = some r := H
                    have A35 := Aside0.mk A350
                    clear A350
                    by_cases c36 : t155 = 0
                    · rw [if_pos c36] at H
                      have c36b0 : (t155 == 0) = true := beq_iff_eq.mpr c36
                      have c36b1 : (t155 != 0) = false := bne_eq_false_iff_eq.mpr c36
                      clear c36
                      obtain rfl := Option.some.inj H
                      go_wp2_with (first | ((with_reducible refine gate_callee (f := 29) rfl ?_); refine goesL_ (some 115) rfl rfl Try.func29 (by kernel_rfl) rfl #[.string (a1.extract 0 ((ji3) : Int).toNat)] rfl (by (try simp only [List.map_toArray, List.map_cons, List.map_nil]); first | done | (simp only [hji3]; rfl) | rfl | (simp only [List.length_drop, List.length_take]; rfl)) ?_; (with_reducible refine (mac_Parse.calls (a1.extract 0 ((ji3) : Int).toNat) t152 t153 _ A33.out).mono ?_); rintro e w37 ⟨rfl, hb⟩; refine ⟨_, rfl, ?_⟩; have n0_ := Aside0.mk (below_step (by repeat (first | (with_reducible first | exact HB.out | apply below_alloc | apply pw_below_drewN | apply below_drew1) | exact HB.out)) hb); clear HB; have HB := n0_; clear n0_; (try clear hb); (try clear hb2); (try clear hk); (try clear hi)) | ((with_reducible refine gate_callee (f := 34) rfl ?_); refine goesL_ (some 124) rfl rfl Try.func34 (by kernel_rfl) rfl #[.int .i64 t152] rfl (by (try simp only [List.map_toArray, List.map_cons, List.map_nil]); first | done | rfl | (simp only [List.length_drop, List.length_take]; rfl)) ?_; (with_reducible refine (mac_Print.calls t152 t154 t155 _ A35.out).mono ?_); rintro e w38 ⟨rfl, hb⟩; refine ⟨_, rfl, ?_⟩; have n0_ := Aside0.mk (below_step (by repeat (first | (with_reducible first | exact HB.out | apply below_alloc | apply pw_below_drewN | apply below_drew1) | exact HB.out)) hb); clear HB; have HB := n0_; clear n0_; (try clear hb); (try clear hb2); (try clear hk); (try clear hi)))
                      go_ret
                      exact ⟨by first | rfl | (simp [errW_none, errW_some] <;> rfl) | (simp only [← hji3]; first | rfl | (simp [errW_none, errW_some] <;> rfl)) | (simp [*, errW_none, errW_some] <;> rfl), by repeat (first | (with_reducible first | exact HB.out | apply below_alloc | apply pw_below_drewN | apply below_drew1) | exact HB.out)⟩
                    · rw [if_neg c36] at H
                      have c36b0 : (t155 == 0) = false := beq_eq_false_iff_ne.mpr c36
                      have c36b1 : (t155 != 0) = true := bne_iff_ne.mpr c36
                      obtain rfl := Option.some.inj H
                      go_wp2_with (first | ((with_reducible refine gate_callee (f := 29) rfl ?_); refine goesL_ (some 115) rfl rfl Try.func29 (by kernel_rfl) rfl #[.string (a1.extract 0 ((ji3) : Int).toNat)] rfl (by (try simp only [List.map_toArray, List.map_cons, List.map_nil]); first | done | (simp only [hji3]; rfl) | rfl | (simp only [List.length_drop, List.length_take]; rfl)) ?_; (with_reducible refine (mac_Parse.calls (a1.extract 0 ((ji3) : Int).toNat) t152 t153 _ A33.out).mono ?_); rintro e w39 ⟨rfl, hb⟩; refine ⟨_, rfl, ?_⟩; have n0_ := Aside0.mk (below_step (by repeat (first | (with_reducible first | exact HB.out | apply below_alloc | apply pw_below_drewN | apply below_drew1) | exact HB.out)) hb); clear HB; have HB := n0_; clear n0_; (try clear hb); (try clear hb2); (try clear hk); (try clear hi)) | ((with_reducible refine gate_callee (f := 34) rfl ?_); refine goesL_ (some 124) rfl rfl Try.func34 (by kernel_rfl) rfl #[.int .i64 t152] rfl (by (try simp only [List.map_toArray, List.map_cons, List.map_nil]); first | done | rfl | (simp only [List.length_drop, List.length_take]; rfl)) ?_; (with_reducible refine (mac_Print.calls t152 t154 t155 _ A35.out).mono ?_); rintro e w40 ⟨rfl, hb⟩; refine ⟨_, rfl, ?_⟩; have n0_ := Aside0.mk (below_step (by repeat (first | (with_reducible first | exact HB.out | apply below_alloc | apply pw_below_drewN | apply below_drew1) | exact HB.out)) hb); clear HB; have HB := n0_; clear n0_; (try clear hb); (try clear hb2); (try clear hk); (try clear hi)))
                      go_ret
                      exact ⟨by first | rfl | (simp [errW_none, errW_some] <;> rfl) | (simp only [← hji3]; first | rfl | (simp [errW_none, errW_some] <;> rfl)) | (simp [*, errW_none, errW_some] <;> rfl), by repeat (first | (with_reducible first | exact HB.out | apply below_alloc | apply pw_below_drewN | apply below_drew1) | exact HB.out)⟩
                  · rw [if_neg c34] at H
                    have c34b0 : (t153 == 0) = false := beq_eq_false_iff_ne.mpr c34
                    have c34b1 : (t153 != 0) = true := bne_iff_ne.mpr c34
                    obtain rfl := Option.some.inj H
                    go_wp2_with (first | ((with_reducible refine gate_callee (f := 29) rfl ?_); refine goesL_ (some 115) rfl rfl Try.func29 (by kernel_rfl) rfl #[.string (a1.extract 0 ((ji3) : Int).toNat)] rfl (by (try simp only [List.map_toArray, List.map_cons, List.map_nil]); first | done | (simp only [hji3]; rfl) | rfl | (simp only [List.length_drop, List.length_take]; rfl)) ?_; (with_reducible refine (mac_Parse.calls (a1.extract 0 ((ji3) : Int).toNat) t152 t153 _ A33.out).mono ?_); rintro e w41 ⟨rfl, hb⟩; refine ⟨_, rfl, ?_⟩; have n0_ := Aside0.mk (below_step (by repeat (first | (with_reducible first | exact HB.out | apply below_alloc | apply pw_below_drewN | apply below_drew1) | exact HB.out)) hb); clear HB; have HB := n0_; clear n0_; (try clear hb); (try clear hb2); (try clear hk); (try clear hi)))
                    go_ret
                    exact ⟨by first | rfl | (simp [errW_none, errW_some] <;> rfl) | (simp only [← hji3]; first | rfl | (simp [errW_none, errW_some] <;> rfl)) | (simp [*, errW_none, errW_some] <;> rfl), by repeat (first | (with_reducible first | exact HB.out | apply below_alloc | apply pw_below_drewN | apply below_drew1) | exact HB.out)⟩
    · rw [if_neg c5] at H
      exact absurd H (by simp)
  · rw [if_neg c4] at H
    exact absurd H (by simp)

/-- THE ONE PURE STATEMENT of footwaylaw01_MacBack: yours. -/
def footwaylaw01_MacBack.Pure : Prop := ∀ (a0 : Int) (a1 : ByteArray), (Lit.int .i64 a0).wf = true → a1.size ≤ 140737488351232 → ∃ k, footwaylaw01_MacBack.f k a0 a1 = some true
theorem footwaylaw01_MacBack.walk (P : footwaylaw01_MacBack.Pure) (a0 : Int) (a1 : ByteArray) (w : World) (w0 : (Lit.int .i64 a0).wf = true) (w1 : a1.size ≤ 140737488351232) :
    Calls Try.prog 9 #[.int .i64 a0, .string a1] w fun e w' => e = .returned (.bool true) ∧ Below w.heap.size w w' := by
  obtain ⟨k, h⟩ := P a0 a1 w0 w1
  refine (footwaylaw01_MacBack.calls k a0 a1 true w h).mono ?_
  rintro e w' ⟨rfl, hd⟩
  exact ⟨rfl, hd⟩

end Go.Proofs.Ytnikfjfcbpeieaa.PMa
