-- Laid by a program of this session out of the translation; Lean checks it.
import Derived.Test.YtnikfjfcbpeieaaPFtx0
import Derived.Test.YtnikfjfcbpeieaaPFrx2
import Derived.Test.YtnikfjfcbpeieaaPBbx1
import Derived.Test.YtnikfjfcbpeieaaFp
import Derived.Test.YtnikfjfcbpeieaaPFtx1
import Derived.Test.YtnikfjfcbpeieaaPFtx2
import Derived.Test.YtnikfjfcbpeieaaFp
import Derived.Test.YtnikfjfcbpeieaaPBax1
import Derived.Test.YtnikfjfcbpeieaaPBax2
import Derived.Test.YtnikfjfcbpeieaaPBbx1
import Derived.Test.YtnikfjfcbpeieaaPFrx2
namespace Go.Proofs.Ytnikfjfcbpeieaa.PFt
open Go.RowKit Go.Proofs.Ytnikfjfcbpeieaa.EFrame Go.Proofs.Ytnikfjfcbpeieaa.PBa Go.Proofs.Ytnikfjfcbpeieaa.PBb Go.Proofs.Ytnikfjfcbpeieaa.PFr Go.Proofs.YtnikfjfcbpeieaaW.PrintWords Go.Proofs.YtnikfjfcbpeieaaW.PrintLast Go.Proofs.YtnikfjfcbpeieaaW.PrintMore
attribute [local go_sem] max2_int min2_int max_two min_two max_three min_three max_four min_four   -- for this text's walks alone
set_option linter.unusedVariables false
set_option linter.unusedSimpArgs false

attribute [local go_sem high] eqA23
/-! ### footwaylaw02_FrameTells: function 5 -/
mutual
def footwaylaw02_FrameTells.j0 : Nat → ByteArray → Int → Int → Int → Int → Int → Bool → Int → Int → Int → ByteArray → Int → Int → Int → ByteArray → Option (Bool)
  | 0, _, _, _, _, _, _, _, _, _, _, _, _, _, _, _ => none
  | k + 1, x5, x6, x7, x8, x11, x14, x70, x113000, x113001, x113002, x113003, x135000, x135001, x135002, x135003 => if x70 = true then (some false) else (if x14 = 0 then ((footwayref01_Class.f x135000).bind fun t138 => (footwaylaw02_FrameTells.j1 k x5 x6 x7 x8 (x11 != t138) x113000 x113001 x113002 x113003)) else (if x11 = 0 then (footwaylaw02_FrameTells.j1 k x5 x6 x7 x8 false x113000 x113001 x113002 x113003) else (footwaylaw02_FrameTells.j1 k x5 x6 x7 x8 true x113000 x113001 x113002 x113003)))
def footwaylaw02_FrameTells.j1 : Nat → ByteArray → Int → Int → Int → Bool → Int → Int → Int → ByteArray → Option (Bool)
  | 0, _, _, _, _, _, _, _, _, _ => none
  | k + 1, x5, x6, x7, x8, x87, x113000, x113001, x113002, x113003 => if x87 = true then (some false) else ((footwayref02_Right.f x113000 x113001 x113002 x113003).bind fun t139 => (if t139 = true then (if x6 = 0 then (if x8 = 0 then ((footwayref02_Print.f k x113000 x113001 x113002 x113003).bind fun t140 => (if x5.toList = t140.toList then (some (x7 == (x5.size : Int))) else (some false))) else (some false)) else (some false)) else (if x6 = 1 then (if x8 = 1 then (if x5.toList = ([] : List UInt8) then (some (x7 == 0)) else (some false)) else (some false)) else (some false))))
end
def footwaylaw02_FrameTells.f (k : Nat) (a0_0 : Int) (a0_1 : Int) (a0_2 : Int) (a0_3 : ByteArray) (a1 : ByteArray) : Option (Bool) := (footwaylaw02_few.f a0_0 a0_1 a0_2 a0_3).bind fun bt113 => (if 0 ≤ (mn (a1.size : Int) 150) then (if (mn (a1.size : Int) 150) ≤ (a1.size : Int) then ((frame_Print.f k bt113.1 bt113.2.1 bt113.2.2.1 bt113.2.2.2).bind fun bt117 => ((frame_Size.f k bt113.1 bt113.2.1 bt113.2.2.1 bt113.2.2.2).bind fun bt119 => ((frame_Parse.f (a1.extract 0 ((mn (a1.size : Int) 150) : Int).toNat)).bind fun bt121 => ((frame_Kind.f (a1.extract 0 ((mn (a1.size : Int) 150) : Int).toNat)).bind fun bt127 => ((footwayref02_Parse.f k (a1.extract 0 ((mn (a1.size : Int) 150) : Int).toNat)).bind fun bt129 => ((frame_Right.f bt113.1 bt113.2.1 bt113.2.2.1 bt113.2.2.2).bind fun t135 => ((footwayref02_Right.f bt113.1 bt113.2.1 bt113.2.2.1 bt113.2.2.2).bind fun t136 => (if (t135 != t136) = true then (footwaylaw02_FrameTells.j0 k bt117.1 bt117.2 bt119.1 bt119.2 bt127.1 bt129.2.2.2.2 true bt113.1 bt113.2.1 bt113.2.2.1 bt113.2.2.2 bt129.1 bt129.2.1 bt129.2.2.1 bt129.2.2.2.1) else (if (!(bt121.1 == bt129.1) || (!(bt121.2.1 == bt129.2.1) || (!(bt121.2.2.1 == bt129.2.2.1) || (!(bt121.2.2.2.1.toList == bt129.2.2.2.1.toList))))) = true then (footwaylaw02_FrameTells.j0 k bt117.1 bt117.2 bt119.1 bt119.2 bt127.1 bt129.2.2.2.2 true bt113.1 bt113.2.1 bt113.2.2.1 bt113.2.2.2 bt129.1 bt129.2.1 bt129.2.2.1 bt129.2.2.2.1) else (if bt121.2.2.2.2 = bt129.2.2.2.2 then (if bt127.2 = bt129.2.2.2.2 then ((footwaylaw02_alive.f).bind fun t137 => (footwaylaw02_FrameTells.j0 k bt117.1 bt117.2 bt119.1 bt119.2 bt127.1 bt129.2.2.2.2 (!t137) bt113.1 bt113.2.1 bt113.2.2.1 bt113.2.2.2 bt129.1 bt129.2.1 bt129.2.2.1 bt129.2.2.2.1)) else (footwaylaw02_FrameTells.j0 k bt117.1 bt117.2 bt119.1 bt119.2 bt127.1 bt129.2.2.2.2 true bt113.1 bt113.2.1 bt113.2.2.1 bt113.2.2.2 bt129.1 bt129.2.1 bt129.2.2.1 bt129.2.2.2.1)) else (footwaylaw02_FrameTells.j0 k bt117.1 bt117.2 bt119.1 bt119.2 bt127.1 bt129.2.2.2.2 true bt113.1 bt113.2.1 bt113.2.2.1 bt113.2.2.2 bt129.1 bt129.2.1 bt129.2.2.1 bt129.2.2.2.1))))))))))) else (none)) else (none))
theorem footwaylaw02_FrameTells.mono_l : ∀ k, (∀ y0 y1 y2 y3 y4 y5 y6 y7 y8 y9 y10 y11 y12 y13 y14, LeO (footwaylaw02_FrameTells.j0 k y0 y1 y2 y3 y4 y5 y6 y7 y8 y9 y10 y11 y12 y13 y14) (footwaylaw02_FrameTells.j0 (k + 1) y0 y1 y2 y3 y4 y5 y6 y7 y8 y9 y10 y11 y12 y13 y14)) ∧ (∀ y0 y1 y2 y3 y4 y5 y6 y7 y8, LeO (footwaylaw02_FrameTells.j1 k y0 y1 y2 y3 y4 y5 y6 y7 y8) (footwaylaw02_FrameTells.j1 (k + 1) y0 y1 y2 y3 y4 y5 y6 y7 y8))
  | 0 => ⟨fun _ _ _ _ _ _ _ _ _ _ _ _ _ _ _ r h => by simp [footwaylaw02_FrameTells.j0] at h, fun _ _ _ _ _ _ _ _ _ r h => by simp [footwaylaw02_FrameTells.j1] at h⟩
  | k + 1 => by
    obtain ⟨ih0, ih1⟩ := footwaylaw02_FrameTells.mono_l k
    refine ⟨?_, ?_⟩
    · intro y0 y1 y2 y3 y4 y5 y6 y7 y8 y9 y10 y11 y12 y13 y14
      unfold footwaylaw02_FrameTells.j0
      repeat' first
      | (with_reducible exact ih0 _ _ _ _ _ _ _ _ _ _ _ _ _ _ _)
      | (with_reducible exact ih1 _ _ _ _ _ _ _ _ _)
      | (with_reducible exact footwayref02_Parse.mono _ _)
      | (with_reducible exact footwayref02_Print.mono _ _ _ _ _)
      | (with_reducible exact frame_Print.mono _ _ _ _ _)
      | (with_reducible exact frame_Size.mono _ _ _ _ _)
      | (with_reducible exact LeO.refl _)
      | (with_reducible exact LeO.none _)
      | (with_reducible refine LeO.ite ?_ ?_)
      | (with_reducible refine LeO.bind ?_ (fun _ => ?_))
      | exact ih0 _ _ _ _ _ _ _ _ _ _ _ _ _ _ _
      | exact ih1 _ _ _ _ _ _ _ _ _
      | exact footwayref02_Parse.mono _ _
      | exact footwayref02_Print.mono _ _ _ _ _
      | exact frame_Print.mono _ _ _ _ _
      | exact frame_Size.mono _ _ _ _ _
      | exact LeO.none _
      | refine LeO.ite ?_ ?_
      | refine LeO.bind ?_ (fun _ => ?_)
    · intro y0 y1 y2 y3 y4 y5 y6 y7 y8
      unfold footwaylaw02_FrameTells.j1
      repeat' first
      | (with_reducible exact ih0 _ _ _ _ _ _ _ _ _ _ _ _ _ _ _)
      | (with_reducible exact ih1 _ _ _ _ _ _ _ _ _)
      | (with_reducible exact footwayref02_Parse.mono _ _)
      | (with_reducible exact footwayref02_Print.mono _ _ _ _ _)
      | (with_reducible exact frame_Print.mono _ _ _ _ _)
      | (with_reducible exact frame_Size.mono _ _ _ _ _)
      | (with_reducible exact LeO.refl _)
      | (with_reducible exact LeO.none _)
      | (with_reducible refine LeO.ite ?_ ?_)
      | (with_reducible refine LeO.bind ?_ (fun _ => ?_))
      | exact ih0 _ _ _ _ _ _ _ _ _ _ _ _ _ _ _
      | exact ih1 _ _ _ _ _ _ _ _ _
      | exact footwayref02_Parse.mono _ _
      | exact footwayref02_Print.mono _ _ _ _ _
      | exact frame_Print.mono _ _ _ _ _
      | exact frame_Size.mono _ _ _ _ _
      | exact LeO.none _
      | refine LeO.ite ?_ ?_
      | refine LeO.bind ?_ (fun _ => ?_)
theorem footwaylaw02_FrameTells.mono : ∀ a0 a1 a2 a3 a4 k, LeO (footwaylaw02_FrameTells.f k a0 a1 a2 a3 a4) (footwaylaw02_FrameTells.f (k + 1) a0 a1 a2 a3 a4) := by
  intro a0 a1 a2 a3 a4 k
  obtain ⟨ih0, ih1⟩ := footwaylaw02_FrameTells.mono_l k
  unfold footwaylaw02_FrameTells.f
  repeat' first
      | (with_reducible exact ih0 _ _ _ _ _ _ _ _ _ _ _ _ _ _ _)
      | (with_reducible exact ih1 _ _ _ _ _ _ _ _ _)
      | (with_reducible exact footwayref02_Parse.mono _ _)
      | (with_reducible exact footwayref02_Print.mono _ _ _ _ _)
      | (with_reducible exact frame_Print.mono _ _ _ _ _)
      | (with_reducible exact frame_Size.mono _ _ _ _ _)
      | (with_reducible exact LeO.refl _)
      | (with_reducible exact LeO.none _)
      | (with_reducible refine LeO.ite ?_ ?_)
      | (with_reducible refine LeO.bind ?_ (fun _ => ?_))
      | exact ih0 _ _ _ _ _ _ _ _ _ _ _ _ _ _ _
      | exact ih1 _ _ _ _ _ _ _ _ _
      | exact footwayref02_Parse.mono _ _
      | exact footwayref02_Print.mono _ _ _ _ _
      | exact frame_Print.mono _ _ _ _ _
      | exact frame_Size.mono _ _ _ _ _
      | exact LeO.none _
      | refine LeO.ite ?_ ?_
      | refine LeO.bind ?_ (fun _ => ?_)
def footwaylaw02_FrameTells.T1 : Bool × List (List Nat × List Nat) := (true, [([], []), ([0], [0]), ([], []), ([], []), ([3], [3]), ([4], [4]), ([2, 5], [2, 5]), ([1, 1, 0, 1], [1]), ([6, 7, 0, 1, 2, 3, 4, 5, 6, 7], [2, 3, 6])])
def footwaylaw02_FrameTells.B1 : List Nat := [0, 1, 0, 0, 8, 24, 60, 3, 255]
theorem footwaylaw02_FrameTells.tab1 : rtab .any (opsOf Try.f5 1) = footwaylaw02_FrameTells.T1 := by kernel_rfl
theorem footwaylaw02_FrameTells.bits1 : waitsOk footwaylaw02_FrameTells.T1.2 footwaylaw02_FrameTells.B1 = true := by kernel_rfl
def footwaylaw02_FrameTells.T7 : Bool × List (List Nat × List Nat) := (true, [([], []), ([0], [0]), ([], []), ([2, 1], [2]), ([1, 3], [1, 3]), ([4, 3], [4]), ([5], [5]), ([5], [5]), ([6, 7, 5], [5, 6, 7]), ([5, 8], [5, 8]), ([9, 5], [9]), ([10], [10]), ([10], [10]), ([11, 12, 10], [10, 11, 12]), ([10, 13], [10, 13]), ([14, 10], [14]), ([15], [15]), ([15], [15]), ([16, 17, 15], [15, 16, 17]), ([15, 18], [15, 18]), ([19, 15], [19]), ([20, 20], [20]), ([21, 20], [20, 21]), ([20, 22], [20, 22])])
def footwaylaw02_FrameTells.B7 : List Nat := [0, 1, 0, 7, 15, 31, 63, 63, 255, 511, 1023, 2047, 2047, 8191, 16383, 32767, 65535, 65535, 262143, 524287, 1048575, 2097151, 4194303, 8388607]
theorem footwaylaw02_FrameTells.tab7 : rtab .any (opsOf Try.f5 7) = footwaylaw02_FrameTells.T7 := by kernel_rfl
theorem footwaylaw02_FrameTells.bits7 : waitsOk footwaylaw02_FrameTells.T7.2 footwaylaw02_FrameTells.B7 = true := by kernel_rfl
set_option maxHeartbeats 8000000 in
set_option maxRecDepth 100000 in
theorem footwaylaw02_FrameTells.calls (k : Nat) (a0_0 : Int) (a0_1 : Int) (a0_2 : Int) (a0_3 : ByteArray) (a1 : ByteArray) (r : Bool) (w : World) (h : footwaylaw02_FrameTells.f k a0_0 a0_1 a0_2 a0_3 a1 = some r) :
    Calls Try.prog 5 #[.agg #[.int .i64 a0_0, .int .i64 a0_1, .int .i64 a0_2, .string a0_3], .string a1] w fun e w' => e = .returned (.bool r) ∧ Below w.heap.size w w' := by
  have hu23 := Try.underlying23
  have HB := Aside0.mk (Below.refl w.heap.size w)
  have H : ((footwaylaw02_few.f a0_0 a0_1 a0_2 a0_3).bind fun bt113 => (if 0 ≤ (mn (a1.size : Int) 150) then (if (mn (a1.size : Int) 150) ≤ (a1.size : Int) then ((frame_Print.f k bt113.1 bt113.2.1 bt113.2.2.1 bt113.2.2.2).bind fun bt117 => ((frame_Size.f k bt113.1 bt113.2.1 bt113.2.2.1 bt113.2.2.2).bind fun bt119 => ((frame_Parse.f (a1.extract 0 ((mn (a1.size : Int) 150) : Int).toNat)).bind fun bt121 => ((frame_Kind.f (a1.extract 0 ((mn (a1.size : Int) 150) : Int).toNat)).bind fun bt127 => ((footwayref02_Parse.f k (a1.extract 0 ((mn (a1.size : Int) 150) : Int).toNat)).bind fun bt129 => ((frame_Right.f bt113.1 bt113.2.1 bt113.2.2.1 bt113.2.2.2).bind fun t135 => ((footwayref02_Right.f bt113.1 bt113.2.1 bt113.2.2.1 bt113.2.2.2).bind fun t136 => (if (t135 != t136) = true then (footwaylaw02_FrameTells.j0 k bt117.1 bt117.2 bt119.1 bt119.2 bt127.1 bt129.2.2.2.2 true bt113.1 bt113.2.1 bt113.2.2.1 bt113.2.2.2 bt129.1 bt129.2.1 bt129.2.2.1 bt129.2.2.2.1) else (if (!(bt121.1 == bt129.1) || (!(bt121.2.1 == bt129.2.1) || (!(bt121.2.2.1 == bt129.2.2.1) || (!(bt121.2.2.2.1.toList == bt129.2.2.2.1.toList))))) = true then (footwaylaw02_FrameTells.j0 k bt117.1 bt117.2 bt119.1 bt119.2 bt127.1 bt129.2.2.2.2 true bt113.1 bt113.2.1 bt113.2.2.1 bt113.2.2.2 bt129.1 bt129.2.1 bt129.2.2.1 bt129.2.2.2.1) else (if bt121.2.2.2.2 = bt129.2.2.2.2 then (if bt127.2 = bt129.2.2.2.2 then ((footwaylaw02_alive.f).bind fun t137 => (footwaylaw02_FrameTells.j0 k bt117.1 bt117.2 bt119.1 bt119.2 bt127.1 bt129.2.2.2.2 (!t137) bt113.1 bt113.2.1 bt113.2.2.1 bt113.2.2.2 bt129.1 bt129.2.1 bt129.2.2.1 bt129.2.2.2.1)) else (footwaylaw02_FrameTells.j0 k bt117.1 bt117.2 bt119.1 bt119.2 bt127.1 bt129.2.2.2.2 true bt113.1 bt113.2.1 bt113.2.2.1 bt113.2.2.2 bt129.1 bt129.2.1 bt129.2.2.1 bt129.2.2.2.1)) else (footwaylaw02_FrameTells.j0 k bt117.1 bt117.2 bt119.1 bt119.2 bt127.1 bt129.2.2.2.2 true bt113.1 bt113.2.1 bt113.2.2.1 bt113.2.2.2 bt129.1 bt129.2.1 bt129.2.2.1 bt129.2.2.2.1))))))))))) else (none)) else (none))) = some r := h
  clear h
  replace H := Option.bind_eq_some_iff.mp H
  obtain ⟨⟨t113, t114, t115, t116⟩, A30, H⟩ := H
  replace H : (if 0 ≤ (mn (a1.size : Int) 150) then (if (mn (a1.size : Int) 150) ≤ (a1.size : Int) then ((frame_Print.f k t113 t114 t115 t116).bind fun bt117 => ((frame_Size.f k t113 t114 t115 t116).bind fun bt119 => ((frame_Parse.f (a1.extract 0 ((mn (a1.size : Int) 150) : Int).toNat)).bind fun bt121 => ((frame_Kind.f (a1.extract 0 ((mn (a1.size : Int) 150) : Int).toNat)).bind fun bt127 => ((footwayref02_Parse.f k (a1.extract 0 ((mn (a1.size : Int) 150) : Int).toNat)).bind fun bt129 => ((frame_Right.f t113 t114 t115 t116).bind fun t135 => ((footwayref02_Right.f t113 t114 t115 t116).bind fun t136 => (if (t135 != t136) = true then (footwaylaw02_FrameTells.j0 k bt117.1 bt117.2 bt119.1 bt119.2 bt127.1 bt129.2.2.2.2 true t113 t114 t115 t116 bt129.1 bt129.2.1 bt129.2.2.1 bt129.2.2.2.1) else (if (!(bt121.1 == bt129.1) || (!(bt121.2.1 == bt129.2.1) || (!(bt121.2.2.1 == bt129.2.2.1) || (!(bt121.2.2.2.1.toList == bt129.2.2.2.1.toList))))) = true then (footwaylaw02_FrameTells.j0 k bt117.1 bt117.2 bt119.1 bt119.2 bt127.1 bt129.2.2.2.2 true t113 t114 t115 t116 bt129.1 bt129.2.1 bt129.2.2.1 bt129.2.2.2.1) else (if bt121.2.2.2.2 = bt129.2.2.2.2 then (if bt127.2 = bt129.2.2.2.2 then ((footwaylaw02_alive.f).bind fun t137 => (footwaylaw02_FrameTells.j0 k bt117.1 bt117.2 bt119.1 bt119.2 bt127.1 bt129.2.2.2.2 (!t137) t113 t114 t115 t116 bt129.1 bt129.2.1 bt129.2.2.1 bt129.2.2.2.1)) else (footwaylaw02_FrameTells.j0 k bt117.1 bt117.2 bt119.1 bt119.2 bt127.1 bt129.2.2.2.2 true t113 t114 t115 t116 bt129.1 bt129.2.1 bt129.2.2.1 bt129.2.2.2.1)) else (footwaylaw02_FrameTells.j0 k bt117.1 bt117.2 bt119.1 bt119.2 bt127.1 bt129.2.2.2.2 true t113 t114 t115 t116 bt129.1 bt129.2.1 bt129.2.2.1 bt129.2.2.2.1))))))))))) else (none)) else (none)) = some r := H
  have A3 := Aside0.mk A30
  clear A30
  obtain ⟨ji4, hji4⟩ : ∃ j_ : Int, (mn (a1.size : Int) 150) = j_ := ⟨_, rfl⟩
  replace H : (if 0 ≤ (ji4) then (if (ji4) ≤ (a1.size : Int) then ((frame_Print.f k t113 t114 t115 t116).bind fun bt117 => ((frame_Size.f k t113 t114 t115 t116).bind fun bt119 => ((frame_Parse.f (a1.extract 0 ((ji4) : Int).toNat)).bind fun bt121 => ((frame_Kind.f (a1.extract 0 ((ji4) : Int).toNat)).bind fun bt127 => ((footwayref02_Parse.f k (a1.extract 0 ((ji4) : Int).toNat)).bind fun bt129 => ((frame_Right.f t113 t114 t115 t116).bind fun t135 => ((footwayref02_Right.f t113 t114 t115 t116).bind fun t136 => (if (t135 != t136) = true then (footwaylaw02_FrameTells.j0 k bt117.1 bt117.2 bt119.1 bt119.2 bt127.1 bt129.2.2.2.2 true t113 t114 t115 t116 bt129.1 bt129.2.1 bt129.2.2.1 bt129.2.2.2.1) else (if (!(bt121.1 == bt129.1) || (!(bt121.2.1 == bt129.2.1) || (!(bt121.2.2.1 == bt129.2.2.1) || (!(bt121.2.2.2.1.toList == bt129.2.2.2.1.toList))))) = true then (footwaylaw02_FrameTells.j0 k bt117.1 bt117.2 bt119.1 bt119.2 bt127.1 bt129.2.2.2.2 true t113 t114 t115 t116 bt129.1 bt129.2.1 bt129.2.2.1 bt129.2.2.2.1) else (if bt121.2.2.2.2 = bt129.2.2.2.2 then (if bt127.2 = bt129.2.2.2.2 then ((footwaylaw02_alive.f).bind fun t137 => (footwaylaw02_FrameTells.j0 k bt117.1 bt117.2 bt119.1 bt119.2 bt127.1 bt129.2.2.2.2 (!t137) t113 t114 t115 t116 bt129.1 bt129.2.1 bt129.2.2.1 bt129.2.2.2.1)) else (footwaylaw02_FrameTells.j0 k bt117.1 bt117.2 bt119.1 bt119.2 bt127.1 bt129.2.2.2.2 true t113 t114 t115 t116 bt129.1 bt129.2.1 bt129.2.2.1 bt129.2.2.2.1)) else (footwaylaw02_FrameTells.j0 k bt117.1 bt117.2 bt119.1 bt119.2 bt127.1 bt129.2.2.2.2 true t113 t114 t115 t116 bt129.1 bt129.2.1 bt129.2.2.1 bt129.2.2.2.1))))))))))) else (none)) else (none)) = some r := by first | (rw [hji4] at H; exact H) | (simp only [hji4] at H ⊢; exact H)
  (try rw [hji4] at A3)
  (try (have hji4h : ji4 ≤ 150 := by (rw [← hji4]; unfold mn; (repeat' split) <;> omega)))
  (try (have hji4g : ji4 ≤ 64 := by omega))
  (try (have hji4l : 0 ≤ ji4 := by (rw [← hji4]; unfold mn; (repeat' split) <;> omega)))
  (try (have hji4m : 0 ≤ ji4 := by omega))
  have hji4_ : (if 150 < (a1.size : Int) then 150 else (a1.size : Int)) = ji4 := hji4
  by_cases c5 : 0 ≤ (ji4)
  · rw [if_pos c5] at H
    have c5b0 := eq_true c5
    have c5b1 : decide (0 ≤ (ji4)) = true := decide_eq_true c5
    clear c5
    by_cases c6 : (ji4) ≤ (a1.size : Int)
    · rw [if_pos c6] at H
      have c6b0 := eq_true c6
      have c6b1 : decide ((ji4) ≤ (a1.size : Int)) = true := decide_eq_true c6
      clear c6
      replace H := Option.bind_eq_some_iff.mp H
      obtain ⟨⟨t117, t118⟩, A70, H⟩ := H
      replace H : ((frame_Size.f k t113 t114 t115 t116).bind fun bt119 => ((frame_Parse.f (a1.extract 0 ((ji4) : Int).toNat)).bind fun bt121 => ((frame_Kind.f (a1.extract 0 ((ji4) : Int).toNat)).bind fun bt127 => ((footwayref02_Parse.f k (a1.extract 0 ((ji4) : Int).toNat)).bind fun bt129 => ((frame_Right.f t113 t114 t115 t116).bind fun t135 => ((footwayref02_Right.f t113 t114 t115 t116).bind fun t136 => (if (t135 != t136) = true then (footwaylaw02_FrameTells.j0 k t117 t118 bt119.1 bt119.2 bt127.1 bt129.2.2.2.2 true t113 t114 t115 t116 bt129.1 bt129.2.1 bt129.2.2.1 bt129.2.2.2.1) else (if (!(bt121.1 == bt129.1) || (!(bt121.2.1 == bt129.2.1) || (!(bt121.2.2.1 == bt129.2.2.1) || (!(bt121.2.2.2.1.toList == bt129.2.2.2.1.toList))))) = true then (footwaylaw02_FrameTells.j0 k t117 t118 bt119.1 bt119.2 bt127.1 bt129.2.2.2.2 true t113 t114 t115 t116 bt129.1 bt129.2.1 bt129.2.2.1 bt129.2.2.2.1) else (if bt121.2.2.2.2 = bt129.2.2.2.2 then (if bt127.2 = bt129.2.2.2.2 then ((footwaylaw02_alive.f).bind fun t137 => (footwaylaw02_FrameTells.j0 k t117 t118 bt119.1 bt119.2 bt127.1 bt129.2.2.2.2 (!t137) t113 t114 t115 t116 bt129.1 bt129.2.1 bt129.2.2.1 bt129.2.2.2.1)) else (footwaylaw02_FrameTells.j0 k t117 t118 bt119.1 bt119.2 bt127.1 bt129.2.2.2.2 true t113 t114 t115 t116 bt129.1 bt129.2.1 bt129.2.2.1 bt129.2.2.2.1)) else (footwaylaw02_FrameTells.j0 k t117 t118 bt119.1 bt119.2 bt127.1 bt129.2.2.2.2 true t113 t114 t115 t116 bt129.1 bt129.2.1 bt129.2.2.1 bt129.2.2.2.1)))))))))) = some r := H
      have A7 := Aside0.mk A70
      clear A70
      replace H := Option.bind_eq_some_iff.mp H
      obtain ⟨⟨t119, t120⟩, A80, H⟩ := H
      replace H : ((frame_Parse.f (a1.extract 0 ((ji4) : Int).toNat)).bind fun bt121 => ((frame_Kind.f (a1.extract 0 ((ji4) : Int).toNat)).bind fun bt127 => ((footwayref02_Parse.f k (a1.extract 0 ((ji4) : Int).toNat)).bind fun bt129 => ((frame_Right.f t113 t114 t115 t116).bind fun t135 => ((footwayref02_Right.f t113 t114 t115 t116).bind fun t136 => (if (t135 != t136) = true then (footwaylaw02_FrameTells.j0 k t117 t118 t119 t120 bt127.1 bt129.2.2.2.2 true t113 t114 t115 t116 bt129.1 bt129.2.1 bt129.2.2.1 bt129.2.2.2.1) else (if (!(bt121.1 == bt129.1) || (!(bt121.2.1 == bt129.2.1) || (!(bt121.2.2.1 == bt129.2.2.1) || (!(bt121.2.2.2.1.toList == bt129.2.2.2.1.toList))))) = true then (footwaylaw02_FrameTells.j0 k t117 t118 t119 t120 bt127.1 bt129.2.2.2.2 true t113 t114 t115 t116 bt129.1 bt129.2.1 bt129.2.2.1 bt129.2.2.2.1) else (if bt121.2.2.2.2 = bt129.2.2.2.2 then (if bt127.2 = bt129.2.2.2.2 then ((footwaylaw02_alive.f).bind fun t137 => (footwaylaw02_FrameTells.j0 k t117 t118 t119 t120 bt127.1 bt129.2.2.2.2 (!t137) t113 t114 t115 t116 bt129.1 bt129.2.1 bt129.2.2.1 bt129.2.2.2.1)) else (footwaylaw02_FrameTells.j0 k t117 t118 t119 t120 bt127.1 bt129.2.2.2.2 true t113 t114 t115 t116 bt129.1 bt129.2.1 bt129.2.2.1 bt129.2.2.2.1)) else (footwaylaw02_FrameTells.j0 k t117 t118 t119 t120 bt127.1 bt129.2.2.2.2 true t113 t114 t115 t116 bt129.1 bt129.2.1 bt129.2.2.1 bt129.2.2.2.1))))))))) = some r := H
      have A8 := Aside0.mk A80
      clear A80
      replace H := Option.bind_eq_some_iff.mp H
      obtain ⟨⟨t121, t122, t123, t124, t125⟩, A90, H⟩ := H
      replace H : ((frame_Kind.f (a1.extract 0 ((ji4) : Int).toNat)).bind fun bt127 => ((footwayref02_Parse.f k (a1.extract 0 ((ji4) : Int).toNat)).bind fun bt129 => ((frame_Right.f t113 t114 t115 t116).bind fun t135 => ((footwayref02_Right.f t113 t114 t115 t116).bind fun t136 => (if (t135 != t136) = true then (footwaylaw02_FrameTells.j0 k t117 t118 t119 t120 bt127.1 bt129.2.2.2.2 true t113 t114 t115 t116 bt129.1 bt129.2.1 bt129.2.2.1 bt129.2.2.2.1) else (if (!(t121 == bt129.1) || (!(t122 == bt129.2.1) || (!(t123 == bt129.2.2.1) || (!(t124.toList == bt129.2.2.2.1.toList))))) = true then (footwaylaw02_FrameTells.j0 k t117 t118 t119 t120 bt127.1 bt129.2.2.2.2 true t113 t114 t115 t116 bt129.1 bt129.2.1 bt129.2.2.1 bt129.2.2.2.1) else (if t125 = bt129.2.2.2.2 then (if bt127.2 = bt129.2.2.2.2 then ((footwaylaw02_alive.f).bind fun t137 => (footwaylaw02_FrameTells.j0 k t117 t118 t119 t120 bt127.1 bt129.2.2.2.2 (!t137) t113 t114 t115 t116 bt129.1 bt129.2.1 bt129.2.2.1 bt129.2.2.2.1)) else (footwaylaw02_FrameTells.j0 k t117 t118 t119 t120 bt127.1 bt129.2.2.2.2 true t113 t114 t115 t116 bt129.1 bt129.2.1 bt129.2.2.1 bt129.2.2.2.1)) else (footwaylaw02_FrameTells.j0 k t117 t118 t119 t120 bt127.1 bt129.2.2.2.2 true t113 t114 t115 t116 bt129.1 bt129.2.1 bt129.2.2.1 bt129.2.2.2.1)))))))) = some r := H
      have A9 := Aside0.mk A90
      clear A90
      replace H := Option.bind_eq_some_iff.mp H
      obtain ⟨⟨t127, t128⟩, A100, H⟩ := H
      replace H : ((footwayref02_Parse.f k (a1.extract 0 ((ji4) : Int).toNat)).bind fun bt129 => ((frame_Right.f t113 t114 t115 t116).bind fun t135 => ((footwayref02_Right.f t113 t114 t115 t116).bind fun t136 => (if (t135 != t136) = true then (footwaylaw02_FrameTells.j0 k t117 t118 t119 t120 t127 bt129.2.2.2.2 true t113 t114 t115 t116 bt129.1 bt129.2.1 bt129.2.2.1 bt129.2.2.2.1) else (if (!(t121 == bt129.1) || (!(t122 == bt129.2.1) || (!(t123 == bt129.2.2.1) || (!(t124.toList == bt129.2.2.2.1.toList))))) = true then (footwaylaw02_FrameTells.j0 k t117 t118 t119 t120 t127 bt129.2.2.2.2 true t113 t114 t115 t116 bt129.1 bt129.2.1 bt129.2.2.1 bt129.2.2.2.1) else (if t125 = bt129.2.2.2.2 then (if t128 = bt129.2.2.2.2 then ((footwaylaw02_alive.f).bind fun t137 => (footwaylaw02_FrameTells.j0 k t117 t118 t119 t120 t127 bt129.2.2.2.2 (!t137) t113 t114 t115 t116 bt129.1 bt129.2.1 bt129.2.2.1 bt129.2.2.2.1)) else (footwaylaw02_FrameTells.j0 k t117 t118 t119 t120 t127 bt129.2.2.2.2 true t113 t114 t115 t116 bt129.1 bt129.2.1 bt129.2.2.1 bt129.2.2.2.1)) else (footwaylaw02_FrameTells.j0 k t117 t118 t119 t120 t127 bt129.2.2.2.2 true t113 t114 t115 t116 bt129.1 bt129.2.1 bt129.2.2.1 bt129.2.2.2.1))))))) = some r := H
      have A10 := Aside0.mk A100
      clear A100
      replace H := Option.bind_eq_some_iff.mp H
      obtain ⟨⟨t129, t130, t131, t132, t133⟩, A110, H⟩ := H
      replace H : ((frame_Right.f t113 t114 t115 t116).bind fun t135 => ((footwayref02_Right.f t113 t114 t115 t116).bind fun t136 => (if (t135 != t136) = true then (footwaylaw02_FrameTells.j0 k t117 t118 t119 t120 t127 t133 true t113 t114 t115 t116 t129 t130 t131 t132) else (if (!(t121 == t129) || (!(t122 == t130) || (!(t123 == t131) || (!(t124.toList == t132.toList))))) = true then (footwaylaw02_FrameTells.j0 k t117 t118 t119 t120 t127 t133 true t113 t114 t115 t116 t129 t130 t131 t132) else (if t125 = t133 then (if t128 = t133 then ((footwaylaw02_alive.f).bind fun t137 => (footwaylaw02_FrameTells.j0 k t117 t118 t119 t120 t127 t133 (!t137) t113 t114 t115 t116 t129 t130 t131 t132)) else (footwaylaw02_FrameTells.j0 k t117 t118 t119 t120 t127 t133 true t113 t114 t115 t116 t129 t130 t131 t132)) else (footwaylaw02_FrameTells.j0 k t117 t118 t119 t120 t127 t133 true t113 t114 t115 t116 t129 t130 t131 t132)))))) = some r := H
      have A11 := Aside0.mk A110
      clear A110
      have HC12 := Aside0.mk H
      clear H
      go_enter Try.func5, Try.ntmps5
      try go_wp2_with (first | ((with_reducible refine gate_dst (N := 2) rfl ?_); (try (refine gate_guard (by rfl) ?_; dsimp only)); refine box_event ?hg (N := 2) ?hd (cs := #[.int .i64 a0_0, .int .i64 a0_1, .int .i64 a0_2, .string a0_3]) (t := 23) ?hr ?_; (case hd => rfl); (case hg => rfl); (case hr => first | (go_simp; done) | (go_simp; rfl)); intro gb112 hg w13 hbox hb; have n0_ := Aside0.mk (below_step (by repeat (first | (with_reducible first | exact HB.out | apply below_alloc | apply pw_below_drewN | apply below_drew1) | exact HB.out)) hb); have n1_ := Aside0.mk (hbox); have n2_ := Aside0.mk ((by rw [hg]; exact (below_size (by repeat (first | (with_reducible first | exact HB.out | apply below_alloc | apply pw_below_drewN | apply below_drew1) | exact HB.out))) : w.heap.size ≤ gb112)); have n3_ := Aside0.mk ((by rw [hg]; exact (below_size (by repeat (first | (with_reducible first | exact HB.out | apply below_alloc | apply pw_below_drewN | apply below_drew1) | exact HB.out))) : w.heap.size ≤ gb112)); clear HB; have HB := n0_; have BK112 := n1_; have GW112 := n2_; have GE112 := n3_; clear n0_ n1_ n2_ n3_; clear hb hbox hg))
      have n0_ := Aside0.mk (blk_drew BK112.out)
      have n1_ := Aside0.mk (below_drew1 HB.out)
      clear BK112
      clear HB
      have BK112 := n0_
      have HB := n1_
      clear n0_ n1_
      refine start_ (n := 9) (S := fun w' => w'.cell? ⟨gb112, 0, none⟩ = some (.int .i64 a0_0) ∧ w'.cell? ⟨gb112, 1, none⟩ = some (.int .i64 a0_1) ∧ w'.cell? ⟨gb112, 2, none⟩ = some (.int .i64 a0_2) ∧ w'.cell? ⟨gb112, 3, none⟩ = some (.string a0_3)) (ds := [7]) #[false, false, false, false, false, false, false, false, false] (by kernel_rfl) rfl rfl ⟨(blk_cell BK112.out 0).trans rfl, (blk_cell BK112.out 1).trans rfl, (blk_cell BK112.out 2).trans rfl, (blk_cell BK112.out 3).trans rfl⟩ (fun hHeld => ?_); refine with_tabW footwaylaw02_FrameTells.tab1 footwaylaw02_FrameTells.bits1 (fun HT_ HW_ => ?_)
      generalize w13.drew = w14 at BK112 HB hHeld ⊢
      refine pure_ (i := 2) (N := some 17) (v := ?_) (a' := ?_) #[false, false, true, false, false, false, false, false, false] rfl rfl (any_of HT_.out (by kernel_rfl)) (fun _ _ _ h => h) (Or.inl ⟨by rfl, ?_⟩) ?_ ?_
      rotate_left
      · intro w'
        go_simp
        with_reducible rfl
      rotate_left
      · simp only [Act.put, List.setIfInBounds_toArray, List.set_cons_zero, List.set_cons_succ, i64_w, i32_w]
        rfl
      refine pure_ (i := 3) (N := some 18) (v := ?_) (a' := ?_) #[false, false, true, true, false, false, false, false, false] rfl rfl (any_of HT_.out (by kernel_rfl)) (fun _ _ _ h => h) (Or.inl ⟨by rfl, ?_⟩) ?_ ?_
      rotate_left
      · intro w'
        go_simp
        with_reducible rfl
      rotate_left
      · simp only [Act.put, List.setIfInBounds_toArray, List.set_cons_zero, List.set_cons_succ, i64_w, i32_w]
        rfl
      refine pure_ (i := 4) (N := some 19) (v := ?_) (a' := ?_) #[false, false, true, true, true, false, false, false, false] rfl rfl (any_of HT_.out (by kernel_rfl)) (fun _ _ _ h => h) (Or.inl ⟨by rfl, ?_⟩) ?_ ?_
      rotate_left
      · intro w'
        go_simp
        with_reducible rfl
      rotate_left
      · simp only [Act.put, List.setIfInBounds_toArray, List.set_cons_zero, List.set_cons_succ, i64_w, i32_w]
        rfl
      refine pure_ (i := 5) (N := some 20) (v := ?_) (a' := ?_) #[false, false, true, true, true, true, false, false, false] rfl rfl (any_of HT_.out (by kernel_rfl)) (fun _ _ _ h => h) (Or.inl ⟨by rfl, ?_⟩) ?_ ?_
      rotate_left
      · intro w'
        go_simp
        with_reducible rfl
      rotate_left
      · simp only [Act.put, List.setIfInBounds_toArray, List.set_cons_zero, List.set_cons_succ, i64_w, i32_w]
        rfl
      refine pure_ (i := 6) (N := some 21) (v := ?_) (a' := ?_) #[false, false, true, true, true, true, true, false, false] rfl rfl (any_of HT_.out (by kernel_rfl)) (fun _ _ _ h => h) (Or.inl ⟨by rfl, ?_⟩) ?_ ?_
      rotate_left
      · intro w'
        go_simp
        with_reducible rfl
      rotate_left
      · simp only [Act.put, List.setIfInBounds_toArray, List.set_cons_zero, List.set_cons_succ, i64_w, i32_w]
        rfl
      refine take_ (i := 0) (N := some 15) (v := ?_) (a' := ?_) #[true, false, true, true, true, true, true, false, false] rfl rfl (take_ofW HT_.out HW_.out (by kernel_rfl)) (fun _ _ _ h => h) (Or.inl ⟨by rfl, ?_⟩) hHeld ?_ ?_
      rotate_left
      · rintro w' ⟨s0, s1, s2, s3⟩
        go_simp
        with_reducible rfl
      rotate_left
      · simp only [Act.put, List.setIfInBounds_toArray, List.set_cons_zero, List.set_cons_succ, i64_w, i32_w]
        rfl
      refine one_ (i := 1) (N := some 16) #[true, true, true, true, true, true, true, false, false] rfl rfl (one_of HT_.out (by kernel_rfl)) (by decide) (fun K hK => ?_)
      refine goes_ Try.func16 (by kernel_rfl) rfl #[.agg #[.int .i64 a0_0, .int .i64 a0_1, .int .i64 a0_2, .string a0_3]] (by rfl) rfl rfl (by (try simp only [List.map_toArray, List.map_cons, List.map_nil]); first | done | rfl | (simp only [List.length_drop, List.length_take]; rfl)) ?_
      with_reducible refine (footwaylaw02_few.calls a0_0 a0_1 a0_2 a0_3 t113 t114 t115 t116 _ A3.out).mono ?_
      rintro e w15 ⟨rfl, hb⟩
      refine ⟨_, rfl, ?_⟩
      have n0_ := Aside0.mk (blk_below (g := gb112) (o := .cells #[.int .i64 a0_0, .int .i64 a0_1, .int .i64 a0_2, .string a0_3] 23 (0, 0)) (by (with_reducible repeat (first | refine blk_drewN ?_ _ | refine blk_drew ?_ | refine blk_alloc ?_ _)); exact BK112.out) hb)
      have n1_ := Aside0.mk (below_step (by repeat (first | (with_reducible first | exact HB.out | apply below_alloc | apply pw_below_drewN | apply below_drew1 | refine below_set ?_ GE112.out) | exact HB.out)) hb)
      clear BK112
      clear HB
      have BK112 := n0_
      have HB := n1_
      clear n0_ n1_
      (try clear hb)
      (try clear hb2)
      (try clear hk)
      (try clear hi)
      refine hK.out _ _ ⟨(blk_cell BK112.out 0).trans rfl, (blk_cell BK112.out 1).trans rfl, (blk_cell BK112.out 2).trans rfl, (blk_cell BK112.out 3).trans rfl⟩ (fun hHeld => ?_)
      clear hK K
      refine norm_ (a' := ?_) ?_ ?_
      rotate_left
      · show Act.put _ (some 16) _ = _
        simp only [Act.put, List.setIfInBounds_toArray, List.set_cons_zero, List.set_cons_succ, i64_w, i32_w]
        rfl
      refine last_ (i := 7) (N := none) #[true, true, true, true, true, true, true, true, false] rfl rfl (one_of HT_.out (by kernel_rfl)) (by decide) (fun K hK => ?_)
      have hs16 : w15.cell? ⟨gb112, 0, none⟩ = some (.int .i64 a0_0) := (blk_cell BK112.out 0).trans rfl
      have hfs16 := blk_frozen BK112.out 0
      have hs17 : w15.cell? ⟨gb112, 1, none⟩ = some (.int .i64 a0_1) := (blk_cell BK112.out 1).trans rfl
      have hfs17 := blk_frozen BK112.out 1
      have hs18 : w15.cell? ⟨gb112, 2, none⟩ = some (.int .i64 a0_2) := (blk_cell BK112.out 2).trans rfl
      have hfs18 := blk_frozen BK112.out 2
      have hs19 : w15.cell? ⟨gb112, 3, none⟩ = some (.string a0_3) := (blk_cell BK112.out 3).trans rfl
      have hfs19 := blk_frozen BK112.out 3
      refine skip_ (w1 := ?_) (by rfl) rfl ?_ ?_
      rotate_left
      · go_simp
        rfl
      refine hK.out _ _ ?_
      clear hK K
      refine pure_ (i := 8) (N := some 1) (v := ?_) (a' := ?_) #[true, true, true, true, true, true, true, true, true] rfl rfl (any_of HT_.out (by kernel_rfl)) (fun _ _ _ h => h) (Or.inl ⟨by rfl, ?_⟩) ?_ ?_
      rotate_left
      · intro w'
        go_simp
        with_reducible rfl
      rotate_left
      · simp only [Act.put, List.setIfInBounds_toArray, List.set_cons_zero, List.set_cons_succ, i64_w, i32_w]
        rfl
      refine done_ (done_of HT_.out (by kernel_rfl)) ?_
      have hcz20_0 : w15.cell? ⟨gb112, 0, none⟩ = some (.int .i64 a0_0) := (blk_cell BK112.out 0).trans rfl
      have hcz20_1 : w15.cell? ⟨gb112, 1, none⟩ = some (.int .i64 a0_1) := (blk_cell BK112.out 1).trans rfl
      have hcz20_2 : w15.cell? ⟨gb112, 2, none⟩ = some (.int .i64 a0_2) := (blk_cell BK112.out 2).trans rfl
      have hcz20_3 : w15.cell? ⟨gb112, 3, none⟩ = some (.string a0_3) := (blk_cell BK112.out 3).trans rfl
      have hfz20_0 := blk_frozen BK112.out 0
      have hfz20_1 := blk_frozen BK112.out 1
      have hfz20_2 := blk_frozen BK112.out 2
      have hfz20_3 := blk_frozen BK112.out 3
      go_upto_region 7 with (first | ((with_reducible refine gate_callee (f := 17) rfl ?_); refine goesL_ (some 24) rfl rfl Try.func17 (by kernel_rfl) rfl #[.agg #[.int .i64 t113, .int .i64 t114, .int .i64 t115, .string t116]] rfl (by (try simp only [List.map_toArray, List.map_cons, List.map_nil]); first | done | rfl | (simp only [List.length_drop, List.length_take]; rfl)) ?_; (with_reducible refine (frame_Print.calls k t113 t114 t115 t116 t117 t118 _ A7.out).mono ?_); rintro e w21 ⟨rfl, hb⟩; refine ⟨_, rfl, ?_⟩; have n0_ := Aside0.mk (blk_below (g := gb112) (o := .cells #[.int .i64 t113, .int .i64 t114, .int .i64 t115, .string t116] 23 (0, 0)) (by (with_reducible repeat (first | refine blk_drewN ?_ _ | refine blk_drew ?_ | refine blk_alloc ?_ _)); refine blk_put (cs := #[.int .i64 t113, .int .i64 t114, .int .i64 t115, .string a0_3]) ?_ 3 _ rfl; (with_reducible repeat (first | refine blk_drewN ?_ _ | refine blk_drew ?_ | refine blk_alloc ?_ _)); refine blk_put (cs := #[.int .i64 t113, .int .i64 t114, .int .i64 a0_2, .string a0_3]) ?_ 2 _ rfl; (with_reducible repeat (first | refine blk_drewN ?_ _ | refine blk_drew ?_ | refine blk_alloc ?_ _)); refine blk_put (cs := #[.int .i64 t113, .int .i64 a0_1, .int .i64 a0_2, .string a0_3]) ?_ 1 _ rfl; (with_reducible repeat (first | refine blk_drewN ?_ _ | refine blk_drew ?_ | refine blk_alloc ?_ _)); refine blk_put (cs := #[.int .i64 a0_0, .int .i64 a0_1, .int .i64 a0_2, .string a0_3]) ?_ 0 _ rfl; (with_reducible repeat (first | refine blk_drewN ?_ _ | refine blk_drew ?_ | refine blk_alloc ?_ _)); exact BK112.out) hb); have n1_ := Aside0.mk (below_step (by repeat (first | (with_reducible first | exact HB.out | apply below_alloc | apply pw_below_drewN | apply below_drew1 | refine below_set ?_ GE112.out) | exact HB.out)) hb); clear BK112; clear HB; have BK112 := n0_; have HB := n1_; clear n0_ n1_; (try clear hb); (try clear hb2); (try clear hk); (try clear hi); have hcz22_0 : w21.cell? ⟨gb112, 0, none⟩ = some (.int .i64 t113) := (blk_cell BK112.out 0).trans rfl; have hcz22_1 : w21.cell? ⟨gb112, 1, none⟩ = some (.int .i64 t114) := (blk_cell BK112.out 1).trans rfl; have hcz22_2 : w21.cell? ⟨gb112, 2, none⟩ = some (.int .i64 t115) := (blk_cell BK112.out 2).trans rfl; have hcz22_3 : w21.cell? ⟨gb112, 3, none⟩ = some (.string t116) := (blk_cell BK112.out 3).trans rfl; have hfz22_0 := blk_frozen BK112.out 0; have hfz22_1 := blk_frozen BK112.out 1; have hfz22_2 := blk_frozen BK112.out 2; have hfz22_3 := blk_frozen BK112.out 3) | ((with_reducible refine gate_callee (f := 22) rfl ?_); refine goesL_ (some 29) rfl rfl Try.func22 (by kernel_rfl) rfl #[.agg #[.int .i64 t113, .int .i64 t114, .int .i64 t115, .string t116]] rfl (by (try simp only [List.map_toArray, List.map_cons, List.map_nil]); first | done | rfl | (simp only [List.length_drop, List.length_take]; rfl)) ?_; (with_reducible refine (frame_Size.calls k t113 t114 t115 t116 t119 t120 _ A8.out).mono ?_); rintro e w23 ⟨rfl, hb⟩; refine ⟨_, rfl, ?_⟩; have n0_ := Aside0.mk (blk_below (g := gb112) (o := .cells #[.int .i64 t113, .int .i64 t114, .int .i64 t115, .string t116] 23 (0, 0)) (by (with_reducible repeat (first | refine blk_drewN ?_ _ | refine blk_drew ?_ | refine blk_alloc ?_ _)); exact BK112.out) hb); have n1_ := Aside0.mk (below_step (by repeat (first | (with_reducible first | exact HB.out | apply below_alloc | apply pw_below_drewN | apply below_drew1 | refine below_set ?_ GE112.out) | exact HB.out)) hb); clear BK112; clear HB; have BK112 := n0_; have HB := n1_; clear n0_ n1_; (try clear hb); (try clear hb2); (try clear hk); (try clear hi)) | ((with_reducible refine gate_callee (f := 20) rfl ?_); refine goesL_ (some 34) rfl rfl Try.func20 (by kernel_rfl) rfl #[.string (a1.extract 0 ((ji4) : Int).toNat)] rfl (by (try simp only [List.map_toArray, List.map_cons, List.map_nil]); first | done | (simp only [hji4]; rfl) | rfl | (simp only [List.length_drop, List.length_take]; rfl)) ?_; (with_reducible refine (frame_Parse.calls (a1.extract 0 ((ji4) : Int).toNat) t121 t122 t123 t124 t125 _ A9.out).mono ?_); rintro e w24 ⟨rfl, hb⟩; refine ⟨_, rfl, ?_⟩; have n0_ := Aside0.mk (blk_below (g := gb112) (o := .cells #[.int .i64 t113, .int .i64 t114, .int .i64 t115, .string t116] 23 (0, 0)) (by (with_reducible repeat (first | refine blk_drewN ?_ _ | refine blk_drew ?_ | refine blk_alloc ?_ _)); exact BK112.out) hb); have n1_ := Aside0.mk (below_step (by repeat (first | (with_reducible first | exact HB.out | apply below_alloc | apply pw_below_drewN | apply below_drew1 | refine below_set ?_ GE112.out) | exact HB.out)) hb); clear BK112; clear HB; have BK112 := n0_; have HB := n1_; clear n0_ n1_; (try clear hb); (try clear hb2); (try clear hk); (try clear hi)) | ((with_reducible refine gate_dst (N := 9) rfl ?_); (try (refine gate_guard (by rfl) ?_; dsimp only)); refine box_event ?hg (N := 9) ?hd (cs := #[.int .i64 0, .int .i64 0, .int .i64 0, .string (⟨#[]⟩ : ByteArray)]) (t := 23) ?hr ?_; (case hd => rfl); (case hg => rfl); (case hr => first | (go_simp; done) | (go_simp; rfl)); intro gb126 hg w25 hbox hb; have n0_ := Aside0.mk (blk_below (g := gb112) (o := .cells #[.int .i64 t113, .int .i64 t114, .int .i64 t115, .string t116] 23 (0, 0)) (by (with_reducible repeat (first | refine blk_drewN ?_ _ | refine blk_drew ?_ | refine blk_alloc ?_ _)); exact BK112.out) hb); have n1_ := Aside0.mk (below_step (by repeat (first | (with_reducible first | exact HB.out | apply below_alloc | apply pw_below_drewN | apply below_drew1 | refine below_set ?_ GE112.out) | exact HB.out)) hb); have n2_ := Aside0.mk (hbox); have n3_ := Aside0.mk ((by rw [hg]; exact (below_size (by repeat (first | (with_reducible first | exact HB.out | apply below_alloc | apply pw_below_drewN | apply below_drew1 | refine below_set ?_ GE112.out) | exact HB.out))) : w.heap.size ≤ gb126)); have n4_ := Aside0.mk ((by rw [hg]; exact (below_size (by repeat (first | (with_reducible first | exact HB.out | apply below_alloc | apply pw_below_drewN | apply below_drew1 | refine below_set ?_ GE112.out) | exact HB.out))) : w.heap.size ≤ gb126)); have n5_ := Aside0.mk ((by rw [hg]; exact Nat.ne_of_lt (blk_lt (g := gb112) (o := .cells #[.int .i64 t113, .int .i64 t114, .int .i64 t115, .string t116] 23 (0, 0)) (by (with_reducible repeat (first | refine blk_drewN ?_ _ | refine blk_drew ?_ | refine blk_alloc ?_ _)); exact BK112.out)) : gb112 ≠ gb126)); have n6_ := Aside0.mk ((by rw [hg]; exact Nat.ne_of_gt (blk_lt (g := gb112) (o := .cells #[.int .i64 t113, .int .i64 t114, .int .i64 t115, .string t116] 23 (0, 0)) (by (with_reducible repeat (first | refine blk_drewN ?_ _ | refine blk_drew ?_ | refine blk_alloc ?_ _)); exact BK112.out)) : gb126 ≠ gb112)); clear BK112; clear HB; have BK112 := n0_; have HB := n1_; have BK126 := n2_; have GW126 := n3_; have GE126 := n4_; have NB112_126 := n5_; have NB126_112 := n6_; clear n0_ n1_ n2_ n3_ n4_ n5_ n6_; clear hb hbox hg; have hnb26 := NB126_112.out; have hnc26 := NB112_126.out; have hcz27_0 : w25.cell? ⟨gb126, 0, none⟩ = some (.int .i64 0) := (blk_cell BK126.out 0).trans rfl; have hcz27_1 : w25.cell? ⟨gb126, 1, none⟩ = some (.int .i64 0) := (blk_cell BK126.out 1).trans rfl; have hcz27_2 : w25.cell? ⟨gb126, 2, none⟩ = some (.int .i64 0) := (blk_cell BK126.out 2).trans rfl; have hcz27_3 : w25.cell? ⟨gb126, 3, none⟩ = some (.string (⟨#[]⟩ : ByteArray)) := (blk_cell BK126.out 3).trans rfl; have hfz27_0 := blk_frozen BK126.out 0; have hfz27_1 := blk_frozen BK126.out 1; have hfz27_2 := blk_frozen BK126.out 2; have hfz27_3 := blk_frozen BK126.out 3) | ((with_reducible refine gate_callee (f := 23) rfl ?_); refine goesL_ (some 39) rfl rfl Try.func23 (by kernel_rfl) rfl #[.string (a1.extract 0 ((ji4) : Int).toNat)] rfl (by (try simp only [List.map_toArray, List.map_cons, List.map_nil]); first | done | (simp only [hji4]; rfl) | rfl | (simp only [List.length_drop, List.length_take]; rfl)) ?_; (with_reducible refine (frame_Kind.calls (a1.extract 0 ((ji4) : Int).toNat) t127 t128 _ A10.out).mono ?_); rintro e w28 ⟨rfl, hb⟩; refine ⟨_, rfl, ?_⟩; have n0_ := Aside0.mk (blk_below (g := gb112) (o := .cells #[.int .i64 t113, .int .i64 t114, .int .i64 t115, .string t116] 23 (0, 0)) (by (with_reducible repeat (first | refine blk_drewN ?_ _ | refine blk_drew ?_ | refine blk_alloc ?_ _)); refine blk_far ?_ NB112_126.out _; (with_reducible repeat (first | refine blk_drewN ?_ _ | refine blk_drew ?_ | refine blk_alloc ?_ _)); refine blk_far ?_ NB112_126.out _; (with_reducible repeat (first | refine blk_drewN ?_ _ | refine blk_drew ?_ | refine blk_alloc ?_ _)); refine blk_far ?_ NB112_126.out _; (with_reducible repeat (first | refine blk_drewN ?_ _ | refine blk_drew ?_ | refine blk_alloc ?_ _)); refine blk_far ?_ NB112_126.out _; (with_reducible repeat (first | refine blk_drewN ?_ _ | refine blk_drew ?_ | refine blk_alloc ?_ _)); exact BK112.out) hb); have n1_ := Aside0.mk (blk_below (g := gb126) (o := .cells #[.int .i64 t121, .int .i64 t122, .int .i64 t123, .string t124] 23 (0, 0)) (by (with_reducible repeat (first | refine blk_drewN ?_ _ | refine blk_drew ?_ | refine blk_alloc ?_ _)); refine blk_put (cs := #[.int .i64 t121, .int .i64 t122, .int .i64 t123, .string (⟨#[]⟩ : ByteArray)]) ?_ 3 _ rfl; (with_reducible repeat (first | refine blk_drewN ?_ _ | refine blk_drew ?_ | refine blk_alloc ?_ _)); refine blk_put (cs := #[.int .i64 t121, .int .i64 t122, .int .i64 0, .string (⟨#[]⟩ : ByteArray)]) ?_ 2 _ rfl; (with_reducible repeat (first | refine blk_drewN ?_ _ | refine blk_drew ?_ | refine blk_alloc ?_ _)); refine blk_put (cs := #[.int .i64 t121, .int .i64 0, .int .i64 0, .string (⟨#[]⟩ : ByteArray)]) ?_ 1 _ rfl; (with_reducible repeat (first | refine blk_drewN ?_ _ | refine blk_drew ?_ | refine blk_alloc ?_ _)); refine blk_put (cs := #[.int .i64 0, .int .i64 0, .int .i64 0, .string (⟨#[]⟩ : ByteArray)]) ?_ 0 _ rfl; (with_reducible repeat (first | refine blk_drewN ?_ _ | refine blk_drew ?_ | refine blk_alloc ?_ _)); exact BK126.out) hb); have n2_ := Aside0.mk (below_step (by repeat (first | (with_reducible first | exact HB.out | apply below_alloc | apply pw_below_drewN | apply below_drew1 | refine below_set ?_ GE112.out | refine below_set ?_ GE126.out) | exact HB.out)) hb); clear BK112; clear BK126; clear HB; have BK112 := n0_; have BK126 := n1_; have HB := n2_; clear n0_ n1_ n2_; (try clear hb); (try clear hb2); (try clear hk); (try clear hi)) | ((with_reducible refine gate_callee (f := 24) rfl ?_); refine goesL_ (some 44) rfl rfl Try.func24 (by kernel_rfl) rfl #[.string (a1.extract 0 ((ji4) : Int).toNat)] rfl (by (try simp only [List.map_toArray, List.map_cons, List.map_nil]); first | done | (simp only [hji4]; rfl) | rfl | (simp only [List.length_drop, List.length_take]; rfl)) ?_; (with_reducible refine (footwayref02_Parse.calls k (a1.extract 0 ((ji4) : Int).toNat) t129 t130 t131 t132 t133 _ A11.out).mono ?_); rintro e w29 ⟨rfl, hb⟩; refine ⟨_, rfl, ?_⟩; have n0_ := Aside0.mk (blk_below (g := gb112) (o := .cells #[.int .i64 t113, .int .i64 t114, .int .i64 t115, .string t116] 23 (0, 0)) (by (with_reducible repeat (first | refine blk_drewN ?_ _ | refine blk_drew ?_ | refine blk_alloc ?_ _)); exact BK112.out) hb); have n1_ := Aside0.mk (blk_below (g := gb126) (o := .cells #[.int .i64 t121, .int .i64 t122, .int .i64 t123, .string t124] 23 (0, 0)) (by (with_reducible repeat (first | refine blk_drewN ?_ _ | refine blk_drew ?_ | refine blk_alloc ?_ _)); exact BK126.out) hb); have n2_ := Aside0.mk (below_step (by repeat (first | (with_reducible first | exact HB.out | apply below_alloc | apply pw_below_drewN | apply below_drew1 | refine below_set ?_ GE112.out | refine below_set ?_ GE126.out) | exact HB.out)) hb); clear BK112; clear BK126; clear HB; have BK112 := n0_; have BK126 := n1_; have HB := n2_; clear n0_ n1_ n2_; (try clear hb); (try clear hb2); (try clear hk); (try clear hi)) | ((with_reducible refine gate_dst (N := 13) rfl ?_); (try (refine gate_guard (by rfl) ?_; dsimp only)); refine box_event ?hg (N := 13) ?hd (cs := #[.int .i64 0, .int .i64 0, .int .i64 0, .string (⟨#[]⟩ : ByteArray)]) (t := 23) ?hr ?_; (case hd => rfl); (case hg => rfl); (case hr => first | (go_simp; done) | (go_simp; rfl)); intro gb134 hg w30 hbox hb; have n0_ := Aside0.mk (blk_below (g := gb112) (o := .cells #[.int .i64 t113, .int .i64 t114, .int .i64 t115, .string t116] 23 (0, 0)) (by (with_reducible repeat (first | refine blk_drewN ?_ _ | refine blk_drew ?_ | refine blk_alloc ?_ _)); exact BK112.out) hb); have n1_ := Aside0.mk (blk_below (g := gb126) (o := .cells #[.int .i64 t121, .int .i64 t122, .int .i64 t123, .string t124] 23 (0, 0)) (by (with_reducible repeat (first | refine blk_drewN ?_ _ | refine blk_drew ?_ | refine blk_alloc ?_ _)); exact BK126.out) hb); have n2_ := Aside0.mk (below_step (by repeat (first | (with_reducible first | exact HB.out | apply below_alloc | apply pw_below_drewN | apply below_drew1 | refine below_set ?_ GE112.out | refine below_set ?_ GE126.out) | exact HB.out)) hb); have n3_ := Aside0.mk (hbox); have n4_ := Aside0.mk ((by rw [hg]; exact (below_size (by repeat (first | (with_reducible first | exact HB.out | apply below_alloc | apply pw_below_drewN | apply below_drew1 | refine below_set ?_ GE112.out | refine below_set ?_ GE126.out) | exact HB.out))) : w.heap.size ≤ gb134)); have n5_ := Aside0.mk ((by rw [hg]; exact (below_size (by repeat (first | (with_reducible first | exact HB.out | apply below_alloc | apply pw_below_drewN | apply below_drew1 | refine below_set ?_ GE112.out | refine below_set ?_ GE126.out) | exact HB.out))) : w.heap.size ≤ gb134)); have n6_ := Aside0.mk ((by rw [hg]; exact Nat.ne_of_lt (blk_lt (g := gb112) (o := .cells #[.int .i64 t113, .int .i64 t114, .int .i64 t115, .string t116] 23 (0, 0)) (by (with_reducible repeat (first | refine blk_drewN ?_ _ | refine blk_drew ?_ | refine blk_alloc ?_ _)); exact BK112.out)) : gb112 ≠ gb134)); have n7_ := Aside0.mk ((by rw [hg]; exact Nat.ne_of_gt (blk_lt (g := gb112) (o := .cells #[.int .i64 t113, .int .i64 t114, .int .i64 t115, .string t116] 23 (0, 0)) (by (with_reducible repeat (first | refine blk_drewN ?_ _ | refine blk_drew ?_ | refine blk_alloc ?_ _)); exact BK112.out)) : gb134 ≠ gb112)); have n8_ := Aside0.mk ((by rw [hg]; exact Nat.ne_of_lt (blk_lt (g := gb126) (o := .cells #[.int .i64 t121, .int .i64 t122, .int .i64 t123, .string t124] 23 (0, 0)) (by (with_reducible repeat (first | refine blk_drewN ?_ _ | refine blk_drew ?_ | refine blk_alloc ?_ _)); exact BK126.out)) : gb126 ≠ gb134)); have n9_ := Aside0.mk ((by rw [hg]; exact Nat.ne_of_gt (blk_lt (g := gb126) (o := .cells #[.int .i64 t121, .int .i64 t122, .int .i64 t123, .string t124] 23 (0, 0)) (by (with_reducible repeat (first | refine blk_drewN ?_ _ | refine blk_drew ?_ | refine blk_alloc ?_ _)); exact BK126.out)) : gb134 ≠ gb126)); clear BK112; clear BK126; clear HB; have BK112 := n0_; have BK126 := n1_; have HB := n2_; have BK134 := n3_; have GW134 := n4_; have GE134 := n5_; have NB112_134 := n6_; have NB134_112 := n7_; have NB126_134 := n8_; have NB134_126 := n9_; clear n0_ n1_ n2_ n3_ n4_ n5_ n6_ n7_ n8_ n9_; clear hb hbox hg; have hnb31 := NB134_112.out; have hnc31 := NB112_134.out; have hnb32 := NB134_126.out; have hnc32 := NB126_134.out; have hcz33_0 : w30.cell? ⟨gb134, 0, none⟩ = some (.int .i64 0) := (blk_cell BK134.out 0).trans rfl; have hcz33_1 : w30.cell? ⟨gb134, 1, none⟩ = some (.int .i64 0) := (blk_cell BK134.out 1).trans rfl; have hcz33_2 : w30.cell? ⟨gb134, 2, none⟩ = some (.int .i64 0) := (blk_cell BK134.out 2).trans rfl; have hcz33_3 : w30.cell? ⟨gb134, 3, none⟩ = some (.string (⟨#[]⟩ : ByteArray)) := (blk_cell BK134.out 3).trans rfl; have hfz33_0 := blk_frozen BK134.out 0; have hfz33_1 := blk_frozen BK134.out 1; have hfz33_2 := blk_frozen BK134.out 2; have hfz33_3 := blk_frozen BK134.out 3))
      (try simp only [Act.put, List.setIfInBounds_toArray, List.set_cons_zero, List.set_cons_succ])
      go_cut [70] (fun v70 wc => ∃ (kq : Nat) (x70_11 : Bool), v70 = .bool x70_11 ∧ Aside0 (footwaylaw02_FrameTells.j0 kq t117 t118 t119 t120 t127 t133 x70_11 t113 t114 t115 t116 t129 t130 t131 t132 = some r) ∧ Aside0 (kq ≤ k) ∧ Aside0 (wc.heap[gb112]? = some (.cells #[.int .i64 t113, .int .i64 t114, .int .i64 t115, .string t116] 23 (0, 0))) ∧ Aside0 (wc.heap[gb126]? = some (.cells #[.int .i64 t121, .int .i64 t122, .int .i64 t123, .string t124] 23 (0, 0))) ∧ Aside0 (wc.heap[gb134]? = some (.cells #[.int .i64 t129, .int .i64 t130, .int .i64 t131, .string t132] 23 (0, 0))) ∧ Aside0 (Below w.heap.size w wc))
      case first =>
        have H := HC12.out
        clear HC12
        replace H := Option.bind_eq_some_iff.mp H
        obtain ⟨t135, A340, H⟩ := H
        replace H : ((footwayref02_Right.f t113 t114 t115 t116).bind fun t136 => (if (t135 != t136) = true then (footwaylaw02_FrameTells.j0 k t117 t118 t119 t120 t127 t133 true t113 t114 t115 t116 t129 t130 t131 t132) else (if (!(t121 == t129) || (!(t122 == t130) || (!(t123 == t131) || (!(t124.toList == t132.toList))))) = true then (footwaylaw02_FrameTells.j0 k t117 t118 t119 t120 t127 t133 true t113 t114 t115 t116 t129 t130 t131 t132) else (if t125 = t133 then (if t128 = t133 then ((footwaylaw02_alive.f).bind fun t137 => (footwaylaw02_FrameTells.j0 k t117 t118 t119 t120 t127 t133 (!t137) t113 t114 t115 t116 t129 t130 t131 t132)) else (footwaylaw02_FrameTells.j0 k t117 t118 t119 t120 t127 t133 true t113 t114 t115 t116 t129 t130 t131 t132)) else (footwaylaw02_FrameTells.j0 k t117 t118 t119 t120 t127 t133 true t113 t114 t115 t116 t129 t130 t131 t132))))) = some r := H
        have A34 := Aside0.mk A340
        clear A340
        replace H := Option.bind_eq_some_iff.mp H
        obtain ⟨t136, A350, H⟩ := H
        replace H : (if (t135 != t136) = true then (footwaylaw02_FrameTells.j0 k t117 t118 t119 t120 t127 t133 true t113 t114 t115 t116 t129 t130 t131 t132) else (if (!(t121 == t129) || (!(t122 == t130) || (!(t123 == t131) || (!(t124.toList == t132.toList))))) = true then (footwaylaw02_FrameTells.j0 k t117 t118 t119 t120 t127 t133 true t113 t114 t115 t116 t129 t130 t131 t132) else (if t125 = t133 then (if t128 = t133 then ((footwaylaw02_alive.f).bind fun t137 => (footwaylaw02_FrameTells.j0 k t117 t118 t119 t120 t127 t133 (!t137) t113 t114 t115 t116 t129 t130 t131 t132)) else (footwaylaw02_FrameTells.j0 k t117 t118 t119 t120 t127 t133 true t113 t114 t115 t116 t129 t130 t131 t132)) else (footwaylaw02_FrameTells.j0 k t117 t118 t119 t120 t127 t133 true t113 t114 t115 t116 t129 t130 t131 t132)))) = some r := H
        have A35 := Aside0.mk A350
        clear A350
        by_cases c36 : (t135 != t136) = true
        · rw [if_pos c36] at H
          have c36b0 : (t135 != t136) = true := c36
          (try (have c36b1 : decide (t135 = t136) = false := by simpa using c36))
          (try (have c36b2 : (t135 == t136) = false := by simpa using c36))
          (try (have c36b3 : ¬ (t135 = t136) := by simpa using c36))
          clear c36
          (first | rw [c36b0] | (simp only [i64_w, i32_w]; rw [c36b0]) | skip)
          have H' := Aside0.mk H
          clear H
          try go_wp2
          have n0_ : Aside0 (((((w30.setCell ⟨gb134, 0, none⟩ (.int .i64 t129)).setCell ⟨gb134, 1, none⟩ (.int .i64 t130)).setCell ⟨gb134, 2, none⟩ (.int .i64 t131)).setCell ⟨gb134, 3, none⟩ (.string t132)).heap[gb112]? = some (.cells #[.int .i64 t113, .int .i64 t114, .int .i64 t115, .string t116] 23 (0, 0))) := ⟨by (with_reducible repeat (first | refine blk_drewN ?_ _ | refine blk_drew ?_ | refine blk_alloc ?_ _)); refine blk_far ?_ NB112_134.out _; (with_reducible repeat (first | refine blk_drewN ?_ _ | refine blk_drew ?_ | refine blk_alloc ?_ _)); refine blk_far ?_ NB112_134.out _; (with_reducible repeat (first | refine blk_drewN ?_ _ | refine blk_drew ?_ | refine blk_alloc ?_ _)); refine blk_far ?_ NB112_134.out _; (with_reducible repeat (first | refine blk_drewN ?_ _ | refine blk_drew ?_ | refine blk_alloc ?_ _)); refine blk_far ?_ NB112_134.out _; (with_reducible repeat (first | refine blk_drewN ?_ _ | refine blk_drew ?_ | refine blk_alloc ?_ _)); exact BK112.out⟩
          have n1_ : Aside0 (((((w30.setCell ⟨gb134, 0, none⟩ (.int .i64 t129)).setCell ⟨gb134, 1, none⟩ (.int .i64 t130)).setCell ⟨gb134, 2, none⟩ (.int .i64 t131)).setCell ⟨gb134, 3, none⟩ (.string t132)).heap[gb126]? = some (.cells #[.int .i64 t121, .int .i64 t122, .int .i64 t123, .string t124] 23 (0, 0))) := ⟨by (with_reducible repeat (first | refine blk_drewN ?_ _ | refine blk_drew ?_ | refine blk_alloc ?_ _)); refine blk_far ?_ NB126_134.out _; (with_reducible repeat (first | refine blk_drewN ?_ _ | refine blk_drew ?_ | refine blk_alloc ?_ _)); refine blk_far ?_ NB126_134.out _; (with_reducible repeat (first | refine blk_drewN ?_ _ | refine blk_drew ?_ | refine blk_alloc ?_ _)); refine blk_far ?_ NB126_134.out _; (with_reducible repeat (first | refine blk_drewN ?_ _ | refine blk_drew ?_ | refine blk_alloc ?_ _)); refine blk_far ?_ NB126_134.out _; (with_reducible repeat (first | refine blk_drewN ?_ _ | refine blk_drew ?_ | refine blk_alloc ?_ _)); exact BK126.out⟩
          have n2_ : Aside0 (((((w30.setCell ⟨gb134, 0, none⟩ (.int .i64 t129)).setCell ⟨gb134, 1, none⟩ (.int .i64 t130)).setCell ⟨gb134, 2, none⟩ (.int .i64 t131)).setCell ⟨gb134, 3, none⟩ (.string t132)).heap[gb134]? = some (.cells #[.int .i64 t129, .int .i64 t130, .int .i64 t131, .string t132] 23 (0, 0))) := ⟨by (with_reducible repeat (first | refine blk_drewN ?_ _ | refine blk_drew ?_ | refine blk_alloc ?_ _)); refine blk_put (cs := #[.int .i64 t129, .int .i64 t130, .int .i64 t131, .string (⟨#[]⟩ : ByteArray)]) ?_ 3 _ rfl; (with_reducible repeat (first | refine blk_drewN ?_ _ | refine blk_drew ?_ | refine blk_alloc ?_ _)); refine blk_put (cs := #[.int .i64 t129, .int .i64 t130, .int .i64 0, .string (⟨#[]⟩ : ByteArray)]) ?_ 2 _ rfl; (with_reducible repeat (first | refine blk_drewN ?_ _ | refine blk_drew ?_ | refine blk_alloc ?_ _)); refine blk_put (cs := #[.int .i64 t129, .int .i64 0, .int .i64 0, .string (⟨#[]⟩ : ByteArray)]) ?_ 1 _ rfl; (with_reducible repeat (first | refine blk_drewN ?_ _ | refine blk_drew ?_ | refine blk_alloc ?_ _)); refine blk_put (cs := #[.int .i64 0, .int .i64 0, .int .i64 0, .string (⟨#[]⟩ : ByteArray)]) ?_ 0 _ rfl; (with_reducible repeat (first | refine blk_drewN ?_ _ | refine blk_drew ?_ | refine blk_alloc ?_ _)); exact BK134.out⟩
          have n3_ : Aside0 (Below w.heap.size w ((((w30.setCell ⟨gb134, 0, none⟩ (.int .i64 t129)).setCell ⟨gb134, 1, none⟩ (.int .i64 t130)).setCell ⟨gb134, 2, none⟩ (.int .i64 t131)).setCell ⟨gb134, 3, none⟩ (.string t132))) := ⟨by repeat (first | (with_reducible first | exact HB.out | apply below_alloc | apply pw_below_drewN | apply below_drew1 | refine below_set ?_ GE112.out | refine below_set ?_ GE126.out | refine below_set ?_ GE134.out) | exact HB.out)⟩
          (try clear BK112)
          (try clear BK126)
          (try clear BK134)
          (try clear HB)
          generalize ((((w30.setCell ⟨gb134, 0, none⟩ (.int .i64 t129)).setCell ⟨gb134, 1, none⟩ (.int .i64 t130)).setCell ⟨gb134, 2, none⟩ (.int .i64 t131)).setCell ⟨gb134, 3, none⟩ (.string t132)) = w37 at n0_ n1_ n2_ n3_ ⊢
          have BK112 := n0_
          have BK126 := n1_
          have BK134 := n2_
          have HB := n3_
          clear n0_ n1_ n2_ n3_
          have n0_ := Aside0.mk (blk_drew BK112.out)
          have n1_ := Aside0.mk (blk_drew BK126.out)
          have n2_ := Aside0.mk (blk_drew BK134.out)
          have n3_ := Aside0.mk (below_drew1 HB.out)
          clear BK112
          clear BK126
          clear BK134
          clear HB
          have BK112 := n0_
          have BK126 := n1_
          have BK134 := n2_
          have HB := n3_
          clear n0_ n1_ n2_ n3_
          refine start_ (n := 24) (S := fun w' => w'.cell? ⟨gb112, 0, none⟩ = some (.int .i64 t113) ∧ w'.cell? ⟨gb112, 1, none⟩ = some (.int .i64 t114) ∧ w'.cell? ⟨gb112, 2, none⟩ = some (.int .i64 t115) ∧ w'.cell? ⟨gb112, 3, none⟩ = some (.string t116)) (ds := []) #[false, false, false, false, false, false, false, false, false, false, false, false, false, false, false, false, false, false, false, false, false, false, false, false] (by kernel_rfl) rfl rfl ⟨(blk_cell BK112.out 0).trans rfl, (blk_cell BK112.out 1).trans rfl, (blk_cell BK112.out 2).trans rfl, (blk_cell BK112.out 3).trans rfl⟩ (fun hHeld => ?_); refine with_tabW footwaylaw02_FrameTells.tab7 footwaylaw02_FrameTells.bits7 (fun HT_ HW_ => ?_)
          generalize w37.drew = w38 at BK112 BK126 BK134 HB hHeld ⊢
          refine take_ (i := 0) (N := some 47) (v := ?_) (a' := ?_) #[true, false, false, false, false, false, false, false, false, false, false, false, false, false, false, false, false, false, false, false, false, false, false, false] rfl rfl (take_ofW HT_.out HW_.out (by kernel_rfl)) (fun _ _ _ h => h) (Or.inl ⟨by rfl, ?_⟩) hHeld ?_ ?_
          rotate_left
          · rintro w' ⟨s0, s1, s2, s3⟩
            go_simp
            with_reducible rfl
          rotate_left
          · simp only [Act.put, List.setIfInBounds_toArray, List.set_cons_zero, List.set_cons_succ, i64_w, i32_w]
            rfl
          refine take_ (i := 2) (N := some 49) (v := ?_) (a' := ?_) #[true, false, true, false, false, false, false, false, false, false, false, false, false, false, false, false, false, false, false, false, false, false, false, false] rfl rfl (take_ofW HT_.out HW_.out (by kernel_rfl)) (fun _ _ _ h => h) (Or.inl ⟨by rfl, ?_⟩) hHeld ?_ ?_
          rotate_left
          · rintro w' ⟨s0, s1, s2, s3⟩
            go_simp
            with_reducible rfl
          rotate_left
          · simp only [Act.put, List.setIfInBounds_toArray, List.set_cons_zero, List.set_cons_succ, i64_w, i32_w]
            rfl
          refine one_ (i := 1) (N := some 48) #[true, true, true, false, false, false, false, false, false, false, false, false, false, false, false, false, false, false, false, false, false, false, false, false] rfl rfl (one_of HT_.out (by kernel_rfl)) (by decide) (fun K hK => ?_)
          refine goes_ Try.func18 (by kernel_rfl) rfl #[.agg #[.int .i64 t113, .int .i64 t114, .int .i64 t115, .string t116]] (by rfl) rfl rfl (by (try simp only [List.map_toArray, List.map_cons, List.map_nil]); first | done | rfl | (simp only [List.length_drop, List.length_take]; rfl)) ?_
          with_reducible refine (frame_Right.calls t113 t114 t115 t116 t135 _ A34.out).mono ?_
          rintro e w39 ⟨rfl, hb⟩
          refine ⟨_, rfl, ?_⟩
          have n0_ := Aside0.mk (blk_below (g := gb112) (o := .cells #[.int .i64 t113, .int .i64 t114, .int .i64 t115, .string t116] 23 (0, 0)) (by (with_reducible repeat (first | refine blk_drewN ?_ _ | refine blk_drew ?_ | refine blk_alloc ?_ _)); exact BK112.out) hb)
          have n1_ := Aside0.mk (blk_below (g := gb126) (o := .cells #[.int .i64 t121, .int .i64 t122, .int .i64 t123, .string t124] 23 (0, 0)) (by (with_reducible repeat (first | refine blk_drewN ?_ _ | refine blk_drew ?_ | refine blk_alloc ?_ _)); exact BK126.out) hb)
          have n2_ := Aside0.mk (blk_below (g := gb134) (o := .cells #[.int .i64 t129, .int .i64 t130, .int .i64 t131, .string t132] 23 (0, 0)) (by (with_reducible repeat (first | refine blk_drewN ?_ _ | refine blk_drew ?_ | refine blk_alloc ?_ _)); exact BK134.out) hb)
          have n3_ := Aside0.mk (below_step (by repeat (first | (with_reducible first | exact HB.out | apply below_alloc | apply pw_below_drewN | apply below_drew1 | refine below_set ?_ GE112.out | refine below_set ?_ GE126.out | refine below_set ?_ GE134.out) | exact HB.out)) hb)
          clear BK112
          clear BK126
          clear BK134
          clear HB
          have BK112 := n0_
          have BK126 := n1_
          have BK134 := n2_
          have HB := n3_
          clear n0_ n1_ n2_ n3_
          (try clear hb)
          (try clear hb2)
          (try clear hk)
          (try clear hi)
          refine hK.out _ _ ⟨(blk_cell BK112.out 0).trans rfl, (blk_cell BK112.out 1).trans rfl, (blk_cell BK112.out 2).trans rfl, (blk_cell BK112.out 3).trans rfl⟩ (fun hHeld => ?_)
          clear hK K
          refine norm_ (a' := ?_) ?_ ?_
          rotate_left
          · show Act.put _ (some 48) _ = _
            simp only [Act.put, List.setIfInBounds_toArray, List.set_cons_zero, List.set_cons_succ, i64_w, i32_w]
            rfl
          refine one_ (i := 3) (N := some 50) #[true, true, true, true, false, false, false, false, false, false, false, false, false, false, false, false, false, false, false, false, false, false, false, false] rfl rfl (one_of HT_.out (by kernel_rfl)) (by decide) (fun K hK => ?_)
          refine goes_ Try.func25 (by kernel_rfl) rfl #[.agg #[.int .i64 t113, .int .i64 t114, .int .i64 t115, .string t116]] (by rfl) rfl rfl (by (try simp only [List.map_toArray, List.map_cons, List.map_nil]); first | done | rfl | (simp only [List.length_drop, List.length_take]; rfl)) ?_
          with_reducible refine (footwayref02_Right.calls t113 t114 t115 t116 t136 _ A35.out).mono ?_
          rintro e w40 ⟨rfl, hb⟩
          refine ⟨_, rfl, ?_⟩
          have n0_ := Aside0.mk (blk_below (g := gb112) (o := .cells #[.int .i64 t113, .int .i64 t114, .int .i64 t115, .string t116] 23 (0, 0)) (by (with_reducible repeat (first | refine blk_drewN ?_ _ | refine blk_drew ?_ | refine blk_alloc ?_ _)); exact BK112.out) hb)
          have n1_ := Aside0.mk (blk_below (g := gb126) (o := .cells #[.int .i64 t121, .int .i64 t122, .int .i64 t123, .string t124] 23 (0, 0)) (by (with_reducible repeat (first | refine blk_drewN ?_ _ | refine blk_drew ?_ | refine blk_alloc ?_ _)); exact BK126.out) hb)
          have n2_ := Aside0.mk (blk_below (g := gb134) (o := .cells #[.int .i64 t129, .int .i64 t130, .int .i64 t131, .string t132] 23 (0, 0)) (by (with_reducible repeat (first | refine blk_drewN ?_ _ | refine blk_drew ?_ | refine blk_alloc ?_ _)); exact BK134.out) hb)
          have n3_ := Aside0.mk (below_step (by repeat (first | (with_reducible first | exact HB.out | apply below_alloc | apply pw_below_drewN | apply below_drew1 | refine below_set ?_ GE112.out | refine below_set ?_ GE126.out | refine below_set ?_ GE134.out) | exact HB.out)) hb)
          clear BK112
          clear BK126
          clear BK134
          clear HB
          have BK112 := n0_
          have BK126 := n1_
          have BK134 := n2_
          have HB := n3_
          clear n0_ n1_ n2_ n3_
          (try clear hb)
          (try clear hb2)
          (try clear hk)
          (try clear hi)
          refine hK.out _ _ ⟨(blk_cell BK112.out 0).trans rfl, (blk_cell BK112.out 1).trans rfl, (blk_cell BK112.out 2).trans rfl, (blk_cell BK112.out 3).trans rfl⟩ (fun hHeld => ?_)
          clear hK K
          refine norm_ (a' := ?_) ?_ ?_
          rotate_left
          · show Act.put _ (some 50) _ = _
            simp only [Act.put, List.setIfInBounds_toArray, List.set_cons_zero, List.set_cons_succ, i64_w, i32_w]
            rfl
          refine pure_ (i := 4) (N := some 51) (v := ?_) (a' := ?_) #[true, true, true, true, true, false, false, false, false, false, false, false, false, false, false, false, false, false, false, false, false, false, false, false] rfl rfl (any_of HT_.out (by kernel_rfl)) (fun _ _ _ h => h) (Or.inl ⟨by rfl, ?_⟩) ?_ ?_
          rotate_left
          · intro w'
            go_simp
            with_reducible rfl
          rotate_left
          · simp only [Act.put, List.setIfInBounds_toArray, List.set_cons_zero, List.set_cons_succ, i64_w, i32_w]
            rfl
          refine pure_ (i := 5) (N := some 52) (v := ?_) (a' := ?_) #[true, true, true, true, true, true, false, false, false, false, false, false, false, false, false, false, false, false, false, false, false, false, false, false] rfl rfl (any_of HT_.out (by kernel_rfl)) (fun _ _ _ h => h) (Or.inl ⟨by rfl, ?_⟩) ?_ ?_
          rotate_left
          · intro w'
            go_simp
            with_reducible rfl
          rotate_left
          · simp only [Act.put, List.setIfInBounds_toArray, List.set_cons_zero, List.set_cons_succ, i64_w, i32_w]
            rfl
          refine pure_ (i := 6) (N := some 53) (v := undef) (a' := ?_) #[true, true, true, true, true, true, true, false, false, false, false, false, false, false, false, false, false, false, false, false, false, false, false, false] rfl rfl (any_of HT_.out (by kernel_rfl)) (fun _ _ _ h => h) (Or.inr ⟨by rfl, rfl⟩) ?_ ?_
          rotate_left
          · simp only [Act.put, List.setIfInBounds_toArray, List.set_cons_zero, List.set_cons_succ, i64_w, i32_w]
            rfl
          refine pure_ (i := 7) (N := some 54) (v := undef) (a' := ?_) #[true, true, true, true, true, true, true, true, false, false, false, false, false, false, false, false, false, false, false, false, false, false, false, false] rfl rfl (any_of HT_.out (by kernel_rfl)) (fun _ _ _ h => h) (Or.inr ⟨by rfl, rfl⟩) ?_ ?_
          rotate_left
          · simp only [Act.put, List.setIfInBounds_toArray, List.set_cons_zero, List.set_cons_succ, i64_w, i32_w]
            rfl
          refine pure_ (i := 8) (N := some 55) (v := undef) (a' := ?_) #[true, true, true, true, true, true, true, true, true, false, false, false, false, false, false, false, false, false, false, false, false, false, false, false] rfl rfl (any_of HT_.out (by kernel_rfl)) (fun _ _ _ h => h) (Or.inr ⟨by rfl, rfl⟩) ?_ ?_
          rotate_left
          · simp only [Act.put, List.setIfInBounds_toArray, List.set_cons_zero, List.set_cons_succ, i64_w, i32_w]
            rfl
          refine pure_ (i := 9) (N := some 56) (v := ?_) (a' := ?_) #[true, true, true, true, true, true, true, true, true, true, false, false, false, false, false, false, false, false, false, false, false, false, false, false] rfl rfl (any_of HT_.out (by kernel_rfl)) (fun _ _ _ h => h) (Or.inl ⟨by rfl, ?_⟩) ?_ ?_
          rotate_left
          · intro w'
            go_simp
            with_reducible rfl
          rotate_left
          · simp only [Act.put, List.setIfInBounds_toArray, List.set_cons_zero, List.set_cons_succ, i64_w, i32_w]
            rfl
          refine pure_ (i := 10) (N := some 57) (v := ?_) (a' := ?_) #[true, true, true, true, true, true, true, true, true, true, true, false, false, false, false, false, false, false, false, false, false, false, false, false] rfl rfl (any_of HT_.out (by kernel_rfl)) (fun _ _ _ h => h) (Or.inl ⟨by rfl, ?_⟩) ?_ ?_
          rotate_left
          · intro w'
            go_simp
            with_reducible rfl
          rotate_left
          · simp only [Act.put, List.setIfInBounds_toArray, List.set_cons_zero, List.set_cons_succ, i64_w, i32_w]
            rfl
          refine pure_ (i := 11) (N := some 58) (v := undef) (a' := ?_) #[true, true, true, true, true, true, true, true, true, true, true, true, false, false, false, false, false, false, false, false, false, false, false, false] rfl rfl (any_of HT_.out (by kernel_rfl)) (fun _ _ _ h => h) (Or.inr ⟨by rfl, rfl⟩) ?_ ?_
          rotate_left
          · simp only [Act.put, List.setIfInBounds_toArray, List.set_cons_zero, List.set_cons_succ, i64_w, i32_w]
            rfl
          refine pure_ (i := 12) (N := some 59) (v := undef) (a' := ?_) #[true, true, true, true, true, true, true, true, true, true, true, true, true, false, false, false, false, false, false, false, false, false, false, false] rfl rfl (any_of HT_.out (by kernel_rfl)) (fun _ _ _ h => h) (Or.inr ⟨by rfl, rfl⟩) ?_ ?_
          rotate_left
          · simp only [Act.put, List.setIfInBounds_toArray, List.set_cons_zero, List.set_cons_succ, i64_w, i32_w]
            rfl
          refine pure_ (i := 13) (N := some 60) (v := undef) (a' := ?_) #[true, true, true, true, true, true, true, true, true, true, true, true, true, true, false, false, false, false, false, false, false, false, false, false] rfl rfl (any_of HT_.out (by kernel_rfl)) (fun _ _ _ h => h) (Or.inr ⟨by rfl, rfl⟩) ?_ ?_
          rotate_left
          · simp only [Act.put, List.setIfInBounds_toArray, List.set_cons_zero, List.set_cons_succ, i64_w, i32_w]
            rfl
          refine pure_ (i := 14) (N := some 61) (v := ?_) (a' := ?_) #[true, true, true, true, true, true, true, true, true, true, true, true, true, true, true, false, false, false, false, false, false, false, false, false] rfl rfl (any_of HT_.out (by kernel_rfl)) (fun _ _ _ h => h) (Or.inl ⟨by rfl, ?_⟩) ?_ ?_
          rotate_left
          · intro w'
            go_simp
            with_reducible rfl
          rotate_left
          · simp only [Act.put, List.setIfInBounds_toArray, List.set_cons_zero, List.set_cons_succ, i64_w, i32_w]
            rfl
          refine pure_ (i := 15) (N := some 62) (v := ?_) (a' := ?_) #[true, true, true, true, true, true, true, true, true, true, true, true, true, true, true, true, false, false, false, false, false, false, false, false] rfl rfl (any_of HT_.out (by kernel_rfl)) (fun _ _ _ h => h) (Or.inl ⟨by rfl, ?_⟩) ?_ ?_
          rotate_left
          · intro w'
            go_simp
            with_reducible rfl
          rotate_left
          · simp only [Act.put, List.setIfInBounds_toArray, List.set_cons_zero, List.set_cons_succ, i64_w, i32_w]
            rfl
          refine pure_ (i := 16) (N := some 63) (v := undef) (a' := ?_) #[true, true, true, true, true, true, true, true, true, true, true, true, true, true, true, true, true, false, false, false, false, false, false, false] rfl rfl (any_of HT_.out (by kernel_rfl)) (fun _ _ _ h => h) (Or.inr ⟨by rfl, rfl⟩) ?_ ?_
          rotate_left
          · simp only [Act.put, List.setIfInBounds_toArray, List.set_cons_zero, List.set_cons_succ, i64_w, i32_w]
            rfl
          refine pure_ (i := 17) (N := some 64) (v := undef) (a' := ?_) #[true, true, true, true, true, true, true, true, true, true, true, true, true, true, true, true, true, true, false, false, false, false, false, false] rfl rfl (any_of HT_.out (by kernel_rfl)) (fun _ _ _ h => h) (Or.inr ⟨by rfl, rfl⟩) ?_ ?_
          rotate_left
          · simp only [Act.put, List.setIfInBounds_toArray, List.set_cons_zero, List.set_cons_succ, i64_w, i32_w]
            rfl
          refine pure_ (i := 18) (N := some 65) (v := undef) (a' := ?_) #[true, true, true, true, true, true, true, true, true, true, true, true, true, true, true, true, true, true, true, false, false, false, false, false] rfl rfl (any_of HT_.out (by kernel_rfl)) (fun _ _ _ h => h) (Or.inr ⟨by rfl, rfl⟩) ?_ ?_
          rotate_left
          · simp only [Act.put, List.setIfInBounds_toArray, List.set_cons_zero, List.set_cons_succ, i64_w, i32_w]
            rfl
          refine pure_ (i := 19) (N := some 66) (v := ?_) (a' := ?_) #[true, true, true, true, true, true, true, true, true, true, true, true, true, true, true, true, true, true, true, true, false, false, false, false] rfl rfl (any_of HT_.out (by kernel_rfl)) (fun _ _ _ h => h) (Or.inl ⟨by rfl, ?_⟩) ?_ ?_
          rotate_left
          · intro w'
            go_simp
            with_reducible rfl
          rotate_left
          · simp only [Act.put, List.setIfInBounds_toArray, List.set_cons_zero, List.set_cons_succ, i64_w, i32_w]
            rfl
          refine pure_ (i := 20) (N := some 67) (v := ?_) (a' := ?_) #[true, true, true, true, true, true, true, true, true, true, true, true, true, true, true, true, true, true, true, true, true, false, false, false] rfl rfl (any_of HT_.out (by kernel_rfl)) (fun _ _ _ h => h) (Or.inl ⟨by rfl, ?_⟩) ?_ ?_
          rotate_left
          · intro w'
            go_simp
            with_reducible rfl
          rotate_left
          · simp only [Act.put, List.setIfInBounds_toArray, List.set_cons_zero, List.set_cons_succ, i64_w, i32_w]
            rfl
          refine pure_ (i := 21) (N := some 68) (v := undef) (a' := ?_) #[true, true, true, true, true, true, true, true, true, true, true, true, true, true, true, true, true, true, true, true, true, true, false, false] rfl rfl (any_of HT_.out (by kernel_rfl)) (fun _ _ _ h => h) (Or.inr ⟨by rfl, rfl⟩) ?_ ?_
          rotate_left
          · simp only [Act.put, List.setIfInBounds_toArray, List.set_cons_zero, List.set_cons_succ, i64_w, i32_w]
            rfl
          refine pure_ (i := 22) (N := some 69) (v := undef) (a' := ?_) #[true, true, true, true, true, true, true, true, true, true, true, true, true, true, true, true, true, true, true, true, true, true, true, false] rfl rfl (any_of HT_.out (by kernel_rfl)) (fun _ _ _ h => h) (Or.inr ⟨by rfl, rfl⟩) ?_ ?_
          rotate_left
          · simp only [Act.put, List.setIfInBounds_toArray, List.set_cons_zero, List.set_cons_succ, i64_w, i32_w]
            rfl
          refine pure_ (i := 23) (N := some 70) (v := ?_) (a' := ?_) #[true, true, true, true, true, true, true, true, true, true, true, true, true, true, true, true, true, true, true, true, true, true, true, true] rfl rfl (any_of HT_.out (by kernel_rfl)) (fun _ _ _ h => h) (Or.inl ⟨by rfl, ?_⟩) ?_ ?_
          rotate_left
          · intro w'
            go_simp
            with_reducible rfl
          rotate_left
          · simp only [Act.put, List.setIfInBounds_toArray, List.set_cons_zero, List.set_cons_succ, i64_w, i32_w]
            rfl
          refine done_ (done_of HT_.out (by kernel_rfl)) ?_
          try go_wp2
          go_meet
          case rel => exact ⟨_, (true), (by first | rfl | (simp; done) | (simp [*]; done)), H', ⟨by first | omega | exact Nat.le_refl _⟩, ⟨by (with_reducible repeat (first | refine blk_drewN ?_ _ | refine blk_drew ?_ | refine blk_alloc ?_ _)); exact BK112.out⟩, ⟨by (with_reducible repeat (first | refine blk_drewN ?_ _ | refine blk_drew ?_ | refine blk_alloc ?_ _)); exact BK126.out⟩, ⟨by (with_reducible repeat (first | refine blk_drewN ?_ _ | refine blk_drew ?_ | refine blk_alloc ?_ _)); exact BK134.out⟩, ⟨by repeat (first | (with_reducible first | exact HB.out | apply below_alloc | apply pw_below_drewN | apply below_drew1 | refine below_set ?_ GE112.out | refine below_set ?_ GE126.out | refine below_set ?_ GE134.out) | exact HB.out)⟩⟩
        · rw [if_neg c36] at H
          have c36b0 : (t135 != t136) = false := by simpa using c36
          (try (have c36b1 : decide (t135 = t136) = true := by simpa using c36))
          (try (have c36b2 : (t135 == t136) = true := by simpa using c36))
          clear c36
          (first | rw [c36b0] | (simp only [i64_w, i32_w]; rw [c36b0]) | skip)
          by_cases c41 : (!(t121 == t129) || (!(t122 == t130) || (!(t123 == t131) || (!(t124.toList == t132.toList))))) = true
          · rw [if_pos c41] at H
            have c41b0 : (!(t121 == t129) || (!(t122 == t130) || (!(t123 == t131) || (!(t124.toList == t132.toList))))) = true := c41
            clear c41
            have H' := Aside0.mk H
            clear H
            try go_wp2
            have n0_ : Aside0 (((((w30.setCell ⟨gb134, 0, none⟩ (.int .i64 t129)).setCell ⟨gb134, 1, none⟩ (.int .i64 t130)).setCell ⟨gb134, 2, none⟩ (.int .i64 t131)).setCell ⟨gb134, 3, none⟩ (.string t132)).heap[gb112]? = some (.cells #[.int .i64 t113, .int .i64 t114, .int .i64 t115, .string t116] 23 (0, 0))) := ⟨by (with_reducible repeat (first | refine blk_drewN ?_ _ | refine blk_drew ?_ | refine blk_alloc ?_ _)); refine blk_far ?_ NB112_134.out _; (with_reducible repeat (first | refine blk_drewN ?_ _ | refine blk_drew ?_ | refine blk_alloc ?_ _)); refine blk_far ?_ NB112_134.out _; (with_reducible repeat (first | refine blk_drewN ?_ _ | refine blk_drew ?_ | refine blk_alloc ?_ _)); refine blk_far ?_ NB112_134.out _; (with_reducible repeat (first | refine blk_drewN ?_ _ | refine blk_drew ?_ | refine blk_alloc ?_ _)); refine blk_far ?_ NB112_134.out _; (with_reducible repeat (first | refine blk_drewN ?_ _ | refine blk_drew ?_ | refine blk_alloc ?_ _)); exact BK112.out⟩
            have n1_ : Aside0 (((((w30.setCell ⟨gb134, 0, none⟩ (.int .i64 t129)).setCell ⟨gb134, 1, none⟩ (.int .i64 t130)).setCell ⟨gb134, 2, none⟩ (.int .i64 t131)).setCell ⟨gb134, 3, none⟩ (.string t132)).heap[gb126]? = some (.cells #[.int .i64 t121, .int .i64 t122, .int .i64 t123, .string t124] 23 (0, 0))) := ⟨by (with_reducible repeat (first | refine blk_drewN ?_ _ | refine blk_drew ?_ | refine blk_alloc ?_ _)); refine blk_far ?_ NB126_134.out _; (with_reducible repeat (first | refine blk_drewN ?_ _ | refine blk_drew ?_ | refine blk_alloc ?_ _)); refine blk_far ?_ NB126_134.out _; (with_reducible repeat (first | refine blk_drewN ?_ _ | refine blk_drew ?_ | refine blk_alloc ?_ _)); refine blk_far ?_ NB126_134.out _; (with_reducible repeat (first | refine blk_drewN ?_ _ | refine blk_drew ?_ | refine blk_alloc ?_ _)); refine blk_far ?_ NB126_134.out _; (with_reducible repeat (first | refine blk_drewN ?_ _ | refine blk_drew ?_ | refine blk_alloc ?_ _)); exact BK126.out⟩
            have n2_ : Aside0 (((((w30.setCell ⟨gb134, 0, none⟩ (.int .i64 t129)).setCell ⟨gb134, 1, none⟩ (.int .i64 t130)).setCell ⟨gb134, 2, none⟩ (.int .i64 t131)).setCell ⟨gb134, 3, none⟩ (.string t132)).heap[gb134]? = some (.cells #[.int .i64 t129, .int .i64 t130, .int .i64 t131, .string t132] 23 (0, 0))) := ⟨by (with_reducible repeat (first | refine blk_drewN ?_ _ | refine blk_drew ?_ | refine blk_alloc ?_ _)); refine blk_put (cs := #[.int .i64 t129, .int .i64 t130, .int .i64 t131, .string (⟨#[]⟩ : ByteArray)]) ?_ 3 _ rfl; (with_reducible repeat (first | refine blk_drewN ?_ _ | refine blk_drew ?_ | refine blk_alloc ?_ _)); refine blk_put (cs := #[.int .i64 t129, .int .i64 t130, .int .i64 0, .string (⟨#[]⟩ : ByteArray)]) ?_ 2 _ rfl; (with_reducible repeat (first | refine blk_drewN ?_ _ | refine blk_drew ?_ | refine blk_alloc ?_ _)); refine blk_put (cs := #[.int .i64 t129, .int .i64 0, .int .i64 0, .string (⟨#[]⟩ : ByteArray)]) ?_ 1 _ rfl; (with_reducible repeat (first | refine blk_drewN ?_ _ | refine blk_drew ?_ | refine blk_alloc ?_ _)); refine blk_put (cs := #[.int .i64 0, .int .i64 0, .int .i64 0, .string (⟨#[]⟩ : ByteArray)]) ?_ 0 _ rfl; (with_reducible repeat (first | refine blk_drewN ?_ _ | refine blk_drew ?_ | refine blk_alloc ?_ _)); exact BK134.out⟩
            have n3_ : Aside0 (Below w.heap.size w ((((w30.setCell ⟨gb134, 0, none⟩ (.int .i64 t129)).setCell ⟨gb134, 1, none⟩ (.int .i64 t130)).setCell ⟨gb134, 2, none⟩ (.int .i64 t131)).setCell ⟨gb134, 3, none⟩ (.string t132))) := ⟨by repeat (first | (with_reducible first | exact HB.out | apply below_alloc | apply pw_below_drewN | apply below_drew1 | refine below_set ?_ GE112.out | refine below_set ?_ GE126.out | refine below_set ?_ GE134.out) | exact HB.out)⟩
            (try clear BK112)
            (try clear BK126)
            (try clear BK134)
            (try clear HB)
            generalize ((((w30.setCell ⟨gb134, 0, none⟩ (.int .i64 t129)).setCell ⟨gb134, 1, none⟩ (.int .i64 t130)).setCell ⟨gb134, 2, none⟩ (.int .i64 t131)).setCell ⟨gb134, 3, none⟩ (.string t132)) = w42 at n0_ n1_ n2_ n3_ ⊢
            have BK112 := n0_
            have BK126 := n1_
            have BK134 := n2_
            have HB := n3_
            clear n0_ n1_ n2_ n3_
            have n0_ := Aside0.mk (blk_drew BK112.out)
            have n1_ := Aside0.mk (blk_drew BK126.out)
            have n2_ := Aside0.mk (blk_drew BK134.out)
            have n3_ := Aside0.mk (below_drew1 HB.out)
            clear BK112
            clear BK126
            clear BK134
            clear HB
            have BK112 := n0_
            have BK126 := n1_
            have BK134 := n2_
            have HB := n3_
            clear n0_ n1_ n2_ n3_
            refine start_ (n := 24) (S := fun w' => w'.cell? ⟨gb112, 0, none⟩ = some (.int .i64 t113) ∧ w'.cell? ⟨gb112, 1, none⟩ = some (.int .i64 t114) ∧ w'.cell? ⟨gb112, 2, none⟩ = some (.int .i64 t115) ∧ w'.cell? ⟨gb112, 3, none⟩ = some (.string t116) ∧ w'.cell? ⟨gb126, 0, none⟩ = some (.int .i64 t121) ∧ w'.cell? ⟨gb126, 1, none⟩ = some (.int .i64 t122) ∧ w'.cell? ⟨gb126, 2, none⟩ = some (.int .i64 t123) ∧ w'.cell? ⟨gb126, 3, none⟩ = some (.string t124) ∧ w'.cell? ⟨gb134, 0, none⟩ = some (.int .i64 t129) ∧ w'.cell? ⟨gb134, 1, none⟩ = some (.int .i64 t130) ∧ w'.cell? ⟨gb134, 2, none⟩ = some (.int .i64 t131) ∧ w'.cell? ⟨gb134, 3, none⟩ = some (.string t132)) (ds := []) #[false, false, false, false, false, false, false, false, false, false, false, false, false, false, false, false, false, false, false, false, false, false, false, false] (by kernel_rfl) rfl rfl ⟨(blk_cell BK112.out 0).trans rfl, (blk_cell BK112.out 1).trans rfl, (blk_cell BK112.out 2).trans rfl, (blk_cell BK112.out 3).trans rfl, (blk_cell BK126.out 0).trans rfl, (blk_cell BK126.out 1).trans rfl, (blk_cell BK126.out 2).trans rfl, (blk_cell BK126.out 3).trans rfl, (blk_cell BK134.out 0).trans rfl, (blk_cell BK134.out 1).trans rfl, (blk_cell BK134.out 2).trans rfl, (blk_cell BK134.out 3).trans rfl⟩ (fun hHeld => ?_); refine with_tabW footwaylaw02_FrameTells.tab7 footwaylaw02_FrameTells.bits7 (fun HT_ HW_ => ?_)
            generalize w42.drew = w43 at BK112 BK126 BK134 HB hHeld ⊢
            refine take_ (i := 0) (N := some 47) (v := ?_) (a' := ?_) #[true, false, false, false, false, false, false, false, false, false, false, false, false, false, false, false, false, false, false, false, false, false, false, false] rfl rfl (take_ofW HT_.out HW_.out (by kernel_rfl)) (fun _ _ _ h => h) (Or.inl ⟨by rfl, ?_⟩) hHeld ?_ ?_
            rotate_left
            · rintro w' ⟨s0, s1, s2, s3, s4, s5, s6, s7, s8, s9, s10, s11⟩
              go_simp
              with_reducible rfl
            rotate_left
            · simp only [Act.put, List.setIfInBounds_toArray, List.set_cons_zero, List.set_cons_succ, i64_w, i32_w]
              rfl
            refine take_ (i := 2) (N := some 49) (v := ?_) (a' := ?_) #[true, false, true, false, false, false, false, false, false, false, false, false, false, false, false, false, false, false, false, false, false, false, false, false] rfl rfl (take_ofW HT_.out HW_.out (by kernel_rfl)) (fun _ _ _ h => h) (Or.inl ⟨by rfl, ?_⟩) hHeld ?_ ?_
            rotate_left
            · rintro w' ⟨s0, s1, s2, s3, s4, s5, s6, s7, s8, s9, s10, s11⟩
              go_simp
              with_reducible rfl
            rotate_left
            · simp only [Act.put, List.setIfInBounds_toArray, List.set_cons_zero, List.set_cons_succ, i64_w, i32_w]
              rfl
            refine one_ (i := 1) (N := some 48) #[true, true, true, false, false, false, false, false, false, false, false, false, false, false, false, false, false, false, false, false, false, false, false, false] rfl rfl (one_of HT_.out (by kernel_rfl)) (by decide) (fun K hK => ?_)
            refine goes_ Try.func18 (by kernel_rfl) rfl #[.agg #[.int .i64 t113, .int .i64 t114, .int .i64 t115, .string t116]] (by rfl) rfl rfl (by (try simp only [List.map_toArray, List.map_cons, List.map_nil]); first | done | rfl | (simp only [List.length_drop, List.length_take]; rfl)) ?_
            with_reducible refine (frame_Right.calls t113 t114 t115 t116 t135 _ A34.out).mono ?_
            rintro e w44 ⟨rfl, hb⟩
            refine ⟨_, rfl, ?_⟩
            have n0_ := Aside0.mk (blk_below (g := gb112) (o := .cells #[.int .i64 t113, .int .i64 t114, .int .i64 t115, .string t116] 23 (0, 0)) (by (with_reducible repeat (first | refine blk_drewN ?_ _ | refine blk_drew ?_ | refine blk_alloc ?_ _)); exact BK112.out) hb)
            have n1_ := Aside0.mk (blk_below (g := gb126) (o := .cells #[.int .i64 t121, .int .i64 t122, .int .i64 t123, .string t124] 23 (0, 0)) (by (with_reducible repeat (first | refine blk_drewN ?_ _ | refine blk_drew ?_ | refine blk_alloc ?_ _)); exact BK126.out) hb)
            have n2_ := Aside0.mk (blk_below (g := gb134) (o := .cells #[.int .i64 t129, .int .i64 t130, .int .i64 t131, .string t132] 23 (0, 0)) (by (with_reducible repeat (first | refine blk_drewN ?_ _ | refine blk_drew ?_ | refine blk_alloc ?_ _)); exact BK134.out) hb)
            have n3_ := Aside0.mk (below_step (by repeat (first | (with_reducible first | exact HB.out | apply below_alloc | apply pw_below_drewN | apply below_drew1 | refine below_set ?_ GE112.out | refine below_set ?_ GE126.out | refine below_set ?_ GE134.out) | exact HB.out)) hb)
            clear BK112
            clear BK126
            clear BK134
            clear HB
            have BK112 := n0_
            have BK126 := n1_
            have BK134 := n2_
            have HB := n3_
            clear n0_ n1_ n2_ n3_
            (try clear hb)
            (try clear hb2)
            (try clear hk)
            (try clear hi)
            refine hK.out _ _ ⟨(blk_cell BK112.out 0).trans rfl, (blk_cell BK112.out 1).trans rfl, (blk_cell BK112.out 2).trans rfl, (blk_cell BK112.out 3).trans rfl, (blk_cell BK126.out 0).trans rfl, (blk_cell BK126.out 1).trans rfl, (blk_cell BK126.out 2).trans rfl, (blk_cell BK126.out 3).trans rfl, (blk_cell BK134.out 0).trans rfl, (blk_cell BK134.out 1).trans rfl, (blk_cell BK134.out 2).trans rfl, (blk_cell BK134.out 3).trans rfl⟩ (fun hHeld => ?_)
            clear hK K
            refine norm_ (a' := ?_) ?_ ?_
            rotate_left
            · show Act.put _ (some 48) _ = _
              simp only [Act.put, List.setIfInBounds_toArray, List.set_cons_zero, List.set_cons_succ, i64_w, i32_w]
              rfl
            refine one_ (i := 3) (N := some 50) #[true, true, true, true, false, false, false, false, false, false, false, false, false, false, false, false, false, false, false, false, false, false, false, false] rfl rfl (one_of HT_.out (by kernel_rfl)) (by decide) (fun K hK => ?_)
            refine goes_ Try.func25 (by kernel_rfl) rfl #[.agg #[.int .i64 t113, .int .i64 t114, .int .i64 t115, .string t116]] (by rfl) rfl rfl (by (try simp only [List.map_toArray, List.map_cons, List.map_nil]); first | done | rfl | (simp only [List.length_drop, List.length_take]; rfl)) ?_
            with_reducible refine (footwayref02_Right.calls t113 t114 t115 t116 t136 _ A35.out).mono ?_
            rintro e w45 ⟨rfl, hb⟩
            refine ⟨_, rfl, ?_⟩
            have n0_ := Aside0.mk (blk_below (g := gb112) (o := .cells #[.int .i64 t113, .int .i64 t114, .int .i64 t115, .string t116] 23 (0, 0)) (by (with_reducible repeat (first | refine blk_drewN ?_ _ | refine blk_drew ?_ | refine blk_alloc ?_ _)); exact BK112.out) hb)
            have n1_ := Aside0.mk (blk_below (g := gb126) (o := .cells #[.int .i64 t121, .int .i64 t122, .int .i64 t123, .string t124] 23 (0, 0)) (by (with_reducible repeat (first | refine blk_drewN ?_ _ | refine blk_drew ?_ | refine blk_alloc ?_ _)); exact BK126.out) hb)
            have n2_ := Aside0.mk (blk_below (g := gb134) (o := .cells #[.int .i64 t129, .int .i64 t130, .int .i64 t131, .string t132] 23 (0, 0)) (by (with_reducible repeat (first | refine blk_drewN ?_ _ | refine blk_drew ?_ | refine blk_alloc ?_ _)); exact BK134.out) hb)
            have n3_ := Aside0.mk (below_step (by repeat (first | (with_reducible first | exact HB.out | apply below_alloc | apply pw_below_drewN | apply below_drew1 | refine below_set ?_ GE112.out | refine below_set ?_ GE126.out | refine below_set ?_ GE134.out) | exact HB.out)) hb)
            clear BK112
            clear BK126
            clear BK134
            clear HB
            have BK112 := n0_
            have BK126 := n1_
            have BK134 := n2_
            have HB := n3_
            clear n0_ n1_ n2_ n3_
            (try clear hb)
            (try clear hb2)
            (try clear hk)
            (try clear hi)
            refine hK.out _ _ ⟨(blk_cell BK112.out 0).trans rfl, (blk_cell BK112.out 1).trans rfl, (blk_cell BK112.out 2).trans rfl, (blk_cell BK112.out 3).trans rfl, (blk_cell BK126.out 0).trans rfl, (blk_cell BK126.out 1).trans rfl, (blk_cell BK126.out 2).trans rfl, (blk_cell BK126.out 3).trans rfl, (blk_cell BK134.out 0).trans rfl, (blk_cell BK134.out 1).trans rfl, (blk_cell BK134.out 2).trans rfl, (blk_cell BK134.out 3).trans rfl⟩ (fun hHeld => ?_)
            clear hK K
            refine norm_ (a' := ?_) ?_ ?_
            rotate_left
            · show Act.put _ (some 50) _ = _
              simp only [Act.put, List.setIfInBounds_toArray, List.set_cons_zero, List.set_cons_succ, i64_w, i32_w]
              rfl
            refine pure_ (i := 4) (N := some 51) (v := ?_) (a' := ?_) #[true, true, true, true, true, false, false, false, false, false, false, false, false, false, false, false, false, false, false, false, false, false, false, false] rfl rfl (any_of HT_.out (by kernel_rfl)) (fun _ _ _ h => h) (Or.inl ⟨by rfl, ?_⟩) ?_ ?_
            rotate_left
            · intro w'
              go_simp
              with_reducible rfl
            rotate_left
            · simp only [Act.put, List.setIfInBounds_toArray, List.set_cons_zero, List.set_cons_succ, i64_w, i32_w]
              rfl
            refine pure_ (i := 5) (N := some 52) (v := ?_) (a' := ?_) #[true, true, true, true, true, true, false, false, false, false, false, false, false, false, false, false, false, false, false, false, false, false, false, false] rfl rfl (any_of HT_.out (by kernel_rfl)) (fun _ _ _ h => h) (Or.inl ⟨by rfl, ?_⟩) ?_ ?_
            rotate_left
            · intro w'
              go_simp
              with_reducible rfl
            rotate_left
            · simp only [Act.put, List.setIfInBounds_toArray, List.set_cons_zero, List.set_cons_succ, i64_w, i32_w]
              rfl
            refine take_ (i := 6) (N := some 53) (v := ?_) (a' := ?_) #[true, true, true, true, true, true, true, false, false, false, false, false, false, false, false, false, false, false, false, false, false, false, false, false] rfl rfl (take_ofW HT_.out HW_.out (by kernel_rfl)) (fun _ _ _ h => h) (Or.inl ⟨by rfl, ?_⟩) hHeld ?_ ?_
            rotate_left
            · rintro w' ⟨s0, s1, s2, s3, s4, s5, s6, s7, s8, s9, s10, s11⟩
              go_simp
              with_reducible rfl
            rotate_left
            · simp only [Act.put, List.setIfInBounds_toArray, List.set_cons_zero, List.set_cons_succ, i64_w, i32_w]
              rfl
            refine take_ (i := 7) (N := some 54) (v := ?_) (a' := ?_) #[true, true, true, true, true, true, true, true, false, false, false, false, false, false, false, false, false, false, false, false, false, false, false, false] rfl rfl (take_ofW HT_.out HW_.out (by kernel_rfl)) (fun _ _ _ h => h) (Or.inl ⟨by rfl, ?_⟩) hHeld ?_ ?_
            rotate_left
            · rintro w' ⟨s0, s1, s2, s3, s4, s5, s6, s7, s8, s9, s10, s11⟩
              go_simp
              with_reducible rfl
            rotate_left
            · simp only [Act.put, List.setIfInBounds_toArray, List.set_cons_zero, List.set_cons_succ, i64_w, i32_w]
              rfl
            refine pure_ (i := 8) (N := some 55) (v := ?_) (a' := ?_) #[true, true, true, true, true, true, true, true, true, false, false, false, false, false, false, false, false, false, false, false, false, false, false, false] rfl rfl (any_of HT_.out (by kernel_rfl)) (fun _ _ _ h => h) (Or.inl ⟨by rfl, ?_⟩) ?_ ?_
            rotate_left
            · intro w'
              go_simp
              with_reducible rfl
            rotate_left
            · simp only [Act.put, List.setIfInBounds_toArray, List.set_cons_zero, List.set_cons_succ, i64_w, i32_w]
              rfl
            refine pure_ (i := 9) (N := some 56) (v := ?_) (a' := ?_) #[true, true, true, true, true, true, true, true, true, true, false, false, false, false, false, false, false, false, false, false, false, false, false, false] rfl rfl (any_of HT_.out (by kernel_rfl)) (fun _ _ _ h => h) (Or.inl ⟨by rfl, ?_⟩) ?_ ?_
            rotate_left
            · intro w'
              go_simp
              with_reducible rfl
            rotate_left
            · simp only [Act.put, List.setIfInBounds_toArray, List.set_cons_zero, List.set_cons_succ, i64_w, i32_w]
              rfl
            refine pure_ (i := 10) (N := some 57) (v := ?_) (a' := ?_) #[true, true, true, true, true, true, true, true, true, true, true, false, false, false, false, false, false, false, false, false, false, false, false, false] rfl rfl (any_of HT_.out (by kernel_rfl)) (fun _ _ _ h => h) (Or.inl ⟨by rfl, ?_⟩) ?_ ?_
            rotate_left
            · intro w'
              go_simp
              with_reducible rfl
            rotate_left
            · simp only [Act.put, List.setIfInBounds_toArray, List.set_cons_zero, List.set_cons_succ, i64_w, i32_w]
              rfl
            refine pure_ (i := 11) (N := some 58) (v := undef) (a' := ?_) #[true, true, true, true, true, true, true, true, true, true, true, true, false, false, false, false, false, false, false, false, false, false, false, false] rfl rfl (any_of HT_.out (by kernel_rfl)) (fun _ _ _ h => h) (Or.inr ⟨by rfl, rfl⟩) ?_ ?_
            rotate_left
            · simp only [Act.put, List.setIfInBounds_toArray, List.set_cons_zero, List.set_cons_succ, i64_w, i32_w]
              rfl
            refine pure_ (i := 12) (N := some 59) (v := undef) (a' := ?_) #[true, true, true, true, true, true, true, true, true, true, true, true, true, false, false, false, false, false, false, false, false, false, false, false] rfl rfl (any_of HT_.out (by kernel_rfl)) (fun _ _ _ h => h) (Or.inr ⟨by rfl, rfl⟩) ?_ ?_
            rotate_left
            · simp only [Act.put, List.setIfInBounds_toArray, List.set_cons_zero, List.set_cons_succ, i64_w, i32_w]
              rfl
            refine pure_ (i := 13) (N := some 60) (v := undef) (a' := ?_) #[true, true, true, true, true, true, true, true, true, true, true, true, true, true, false, false, false, false, false, false, false, false, false, false] rfl rfl (any_of HT_.out (by kernel_rfl)) (fun _ _ _ h => h) (Or.inr ⟨by rfl, rfl⟩) ?_ ?_
            rotate_left
            · simp only [Act.put, List.setIfInBounds_toArray, List.set_cons_zero, List.set_cons_succ, i64_w, i32_w]
              rfl
            refine pure_ (i := 14) (N := some 61) (v := ?_) (a' := ?_) #[true, true, true, true, true, true, true, true, true, true, true, true, true, true, true, false, false, false, false, false, false, false, false, false] rfl rfl (any_of HT_.out (by kernel_rfl)) (fun _ _ _ h => h) (Or.inl ⟨by rfl, ?_⟩) ?_ ?_
            rotate_left
            · intro w'
              go_simp
              with_reducible rfl
            rotate_left
            · simp only [Act.put, List.setIfInBounds_toArray, List.set_cons_zero, List.set_cons_succ, i64_w, i32_w]
              rfl
            refine pure_ (i := 15) (N := some 62) (v := ?_) (a' := ?_) #[true, true, true, true, true, true, true, true, true, true, true, true, true, true, true, true, false, false, false, false, false, false, false, false] rfl rfl (any_of HT_.out (by kernel_rfl)) (fun _ _ _ h => h) (Or.inl ⟨by rfl, ?_⟩) ?_ ?_
            rotate_left
            · intro w'
              go_simp
              with_reducible rfl
            rotate_left
            · simp only [Act.put, List.setIfInBounds_toArray, List.set_cons_zero, List.set_cons_succ, i64_w, i32_w]
              rfl
            refine pure_ (i := 16) (N := some 63) (v := undef) (a' := ?_) #[true, true, true, true, true, true, true, true, true, true, true, true, true, true, true, true, true, false, false, false, false, false, false, false] rfl rfl (any_of HT_.out (by kernel_rfl)) (fun _ _ _ h => h) (Or.inr ⟨by rfl, rfl⟩) ?_ ?_
            rotate_left
            · simp only [Act.put, List.setIfInBounds_toArray, List.set_cons_zero, List.set_cons_succ, i64_w, i32_w]
              rfl
            refine pure_ (i := 17) (N := some 64) (v := undef) (a' := ?_) #[true, true, true, true, true, true, true, true, true, true, true, true, true, true, true, true, true, true, false, false, false, false, false, false] rfl rfl (any_of HT_.out (by kernel_rfl)) (fun _ _ _ h => h) (Or.inr ⟨by rfl, rfl⟩) ?_ ?_
            rotate_left
            · simp only [Act.put, List.setIfInBounds_toArray, List.set_cons_zero, List.set_cons_succ, i64_w, i32_w]
              rfl
            refine pure_ (i := 18) (N := some 65) (v := undef) (a' := ?_) #[true, true, true, true, true, true, true, true, true, true, true, true, true, true, true, true, true, true, true, false, false, false, false, false] rfl rfl (any_of HT_.out (by kernel_rfl)) (fun _ _ _ h => h) (Or.inr ⟨by rfl, rfl⟩) ?_ ?_
            rotate_left
            · simp only [Act.put, List.setIfInBounds_toArray, List.set_cons_zero, List.set_cons_succ, i64_w, i32_w]
              rfl
            refine pure_ (i := 19) (N := some 66) (v := ?_) (a' := ?_) #[true, true, true, true, true, true, true, true, true, true, true, true, true, true, true, true, true, true, true, true, false, false, false, false] rfl rfl (any_of HT_.out (by kernel_rfl)) (fun _ _ _ h => h) (Or.inl ⟨by rfl, ?_⟩) ?_ ?_
            rotate_left
            · intro w'
              go_simp
              with_reducible rfl
            rotate_left
            · simp only [Act.put, List.setIfInBounds_toArray, List.set_cons_zero, List.set_cons_succ, i64_w, i32_w]
              rfl
            refine pure_ (i := 20) (N := some 67) (v := ?_) (a' := ?_) #[true, true, true, true, true, true, true, true, true, true, true, true, true, true, true, true, true, true, true, true, true, false, false, false] rfl rfl (any_of HT_.out (by kernel_rfl)) (fun _ _ _ h => h) (Or.inl ⟨by rfl, ?_⟩) ?_ ?_
            rotate_left
            · intro w'
              go_simp
              with_reducible rfl
            rotate_left
            · simp only [Act.put, List.setIfInBounds_toArray, List.set_cons_zero, List.set_cons_succ, i64_w, i32_w]
              rfl
            refine pure_ (i := 21) (N := some 68) (v := undef) (a' := ?_) #[true, true, true, true, true, true, true, true, true, true, true, true, true, true, true, true, true, true, true, true, true, true, false, false] rfl rfl (any_of HT_.out (by kernel_rfl)) (fun _ _ _ h => h) (Or.inr ⟨by rfl, rfl⟩) ?_ ?_
            rotate_left
            · simp only [Act.put, List.setIfInBounds_toArray, List.set_cons_zero, List.set_cons_succ, i64_w, i32_w]
              rfl
            refine pure_ (i := 22) (N := some 69) (v := undef) (a' := ?_) #[true, true, true, true, true, true, true, true, true, true, true, true, true, true, true, true, true, true, true, true, true, true, true, false] rfl rfl (any_of HT_.out (by kernel_rfl)) (fun _ _ _ h => h) (Or.inr ⟨by rfl, rfl⟩) ?_ ?_
            rotate_left
            · simp only [Act.put, List.setIfInBounds_toArray, List.set_cons_zero, List.set_cons_succ, i64_w, i32_w]
              rfl
            refine pure_ (i := 23) (N := some 70) (v := ?_) (a' := ?_) #[true, true, true, true, true, true, true, true, true, true, true, true, true, true, true, true, true, true, true, true, true, true, true, true] rfl rfl (any_of HT_.out (by kernel_rfl)) (fun _ _ _ h => h) (Or.inl ⟨by rfl, ?_⟩) ?_ ?_
            rotate_left
            · intro w'
              go_simp
              with_reducible rfl
            rotate_left
            · simp only [Act.put, List.setIfInBounds_toArray, List.set_cons_zero, List.set_cons_succ, i64_w, i32_w]
              rfl
            refine done_ (done_of HT_.out (by kernel_rfl)) ?_
            try go_wp2
            go_meet
            case rel => exact ⟨_, (true), (by first | rfl | (simp; done) | (simp [*]; done)), H', ⟨by first | omega | exact Nat.le_refl _⟩, ⟨by (with_reducible repeat (first | refine blk_drewN ?_ _ | refine blk_drew ?_ | refine blk_alloc ?_ _)); exact BK112.out⟩, ⟨by (with_reducible repeat (first | refine blk_drewN ?_ _ | refine blk_drew ?_ | refine blk_alloc ?_ _)); exact BK126.out⟩, ⟨by (with_reducible repeat (first | refine blk_drewN ?_ _ | refine blk_drew ?_ | refine blk_alloc ?_ _)); exact BK134.out⟩, ⟨by repeat (first | (with_reducible first | exact HB.out | apply below_alloc | apply pw_below_drewN | apply below_drew1 | refine below_set ?_ GE112.out | refine below_set ?_ GE126.out | refine below_set ?_ GE134.out) | exact HB.out)⟩⟩
          · rw [if_neg c41] at H
            have c41b0 : (!(t121 == t129) || (!(t122 == t130) || (!(t123 == t131) || (!(t124.toList == t132.toList))))) = false := by simpa using c41
            clear c41
            by_cases c46 : t125 = t133
            · rw [if_pos c46] at H
              have c46b0 : (t125 == t133) = true := beq_iff_eq.mpr c46
              have c46b1 : (t125 != t133) = false := bne_eq_false_iff_eq.mpr c46
              clear c46
              by_cases c47 : t128 = t133
              · rw [if_pos c47] at H
                have c47b0 : (t128 == t133) = true := beq_iff_eq.mpr c47
                have c47b1 : (t128 != t133) = false := bne_eq_false_iff_eq.mpr c47
                clear c47
                replace H := Option.bind_eq_some_iff.mp H
                obtain ⟨t137, A480, H⟩ := H
                replace H : (footwaylaw02_FrameTells.j0 k t117 t118 t119 t120 t127 t133 (!t137) t113 t114 t115 t116 t129 t130 t131 t132) = some r := H
                have A48 := Aside0.mk A480
                clear A480
                have H' := Aside0.mk H
                clear H
                try go_wp2
                have n0_ : Aside0 (((((w30.setCell ⟨gb134, 0, none⟩ (.int .i64 t129)).setCell ⟨gb134, 1, none⟩ (.int .i64 t130)).setCell ⟨gb134, 2, none⟩ (.int .i64 t131)).setCell ⟨gb134, 3, none⟩ (.string t132)).heap[gb112]? = some (.cells #[.int .i64 t113, .int .i64 t114, .int .i64 t115, .string t116] 23 (0, 0))) := ⟨by (with_reducible repeat (first | refine blk_drewN ?_ _ | refine blk_drew ?_ | refine blk_alloc ?_ _)); refine blk_far ?_ NB112_134.out _; (with_reducible repeat (first | refine blk_drewN ?_ _ | refine blk_drew ?_ | refine blk_alloc ?_ _)); refine blk_far ?_ NB112_134.out _; (with_reducible repeat (first | refine blk_drewN ?_ _ | refine blk_drew ?_ | refine blk_alloc ?_ _)); refine blk_far ?_ NB112_134.out _; (with_reducible repeat (first | refine blk_drewN ?_ _ | refine blk_drew ?_ | refine blk_alloc ?_ _)); refine blk_far ?_ NB112_134.out _; (with_reducible repeat (first | refine blk_drewN ?_ _ | refine blk_drew ?_ | refine blk_alloc ?_ _)); exact BK112.out⟩
                have n1_ : Aside0 (((((w30.setCell ⟨gb134, 0, none⟩ (.int .i64 t129)).setCell ⟨gb134, 1, none⟩ (.int .i64 t130)).setCell ⟨gb134, 2, none⟩ (.int .i64 t131)).setCell ⟨gb134, 3, none⟩ (.string t132)).heap[gb126]? = some (.cells #[.int .i64 t121, .int .i64 t122, .int .i64 t123, .string t124] 23 (0, 0))) := ⟨by (with_reducible repeat (first | refine blk_drewN ?_ _ | refine blk_drew ?_ | refine blk_alloc ?_ _)); refine blk_far ?_ NB126_134.out _; (with_reducible repeat (first | refine blk_drewN ?_ _ | refine blk_drew ?_ | refine blk_alloc ?_ _)); refine blk_far ?_ NB126_134.out _; (with_reducible repeat (first | refine blk_drewN ?_ _ | refine blk_drew ?_ | refine blk_alloc ?_ _)); refine blk_far ?_ NB126_134.out _; (with_reducible repeat (first | refine blk_drewN ?_ _ | refine blk_drew ?_ | refine blk_alloc ?_ _)); refine blk_far ?_ NB126_134.out _; (with_reducible repeat (first | refine blk_drewN ?_ _ | refine blk_drew ?_ | refine blk_alloc ?_ _)); exact BK126.out⟩
                have n2_ : Aside0 (((((w30.setCell ⟨gb134, 0, none⟩ (.int .i64 t129)).setCell ⟨gb134, 1, none⟩ (.int .i64 t130)).setCell ⟨gb134, 2, none⟩ (.int .i64 t131)).setCell ⟨gb134, 3, none⟩ (.string t132)).heap[gb134]? = some (.cells #[.int .i64 t129, .int .i64 t130, .int .i64 t131, .string t132] 23 (0, 0))) := ⟨by (with_reducible repeat (first | refine blk_drewN ?_ _ | refine blk_drew ?_ | refine blk_alloc ?_ _)); refine blk_put (cs := #[.int .i64 t129, .int .i64 t130, .int .i64 t131, .string (⟨#[]⟩ : ByteArray)]) ?_ 3 _ rfl; (with_reducible repeat (first | refine blk_drewN ?_ _ | refine blk_drew ?_ | refine blk_alloc ?_ _)); refine blk_put (cs := #[.int .i64 t129, .int .i64 t130, .int .i64 0, .string (⟨#[]⟩ : ByteArray)]) ?_ 2 _ rfl; (with_reducible repeat (first | refine blk_drewN ?_ _ | refine blk_drew ?_ | refine blk_alloc ?_ _)); refine blk_put (cs := #[.int .i64 t129, .int .i64 0, .int .i64 0, .string (⟨#[]⟩ : ByteArray)]) ?_ 1 _ rfl; (with_reducible repeat (first | refine blk_drewN ?_ _ | refine blk_drew ?_ | refine blk_alloc ?_ _)); refine blk_put (cs := #[.int .i64 0, .int .i64 0, .int .i64 0, .string (⟨#[]⟩ : ByteArray)]) ?_ 0 _ rfl; (with_reducible repeat (first | refine blk_drewN ?_ _ | refine blk_drew ?_ | refine blk_alloc ?_ _)); exact BK134.out⟩
                have n3_ : Aside0 (Below w.heap.size w ((((w30.setCell ⟨gb134, 0, none⟩ (.int .i64 t129)).setCell ⟨gb134, 1, none⟩ (.int .i64 t130)).setCell ⟨gb134, 2, none⟩ (.int .i64 t131)).setCell ⟨gb134, 3, none⟩ (.string t132))) := ⟨by repeat (first | (with_reducible first | exact HB.out | apply below_alloc | apply pw_below_drewN | apply below_drew1 | refine below_set ?_ GE112.out | refine below_set ?_ GE126.out | refine below_set ?_ GE134.out) | exact HB.out)⟩
                (try clear BK112)
                (try clear BK126)
                (try clear BK134)
                (try clear HB)
                generalize ((((w30.setCell ⟨gb134, 0, none⟩ (.int .i64 t129)).setCell ⟨gb134, 1, none⟩ (.int .i64 t130)).setCell ⟨gb134, 2, none⟩ (.int .i64 t131)).setCell ⟨gb134, 3, none⟩ (.string t132)) = w49 at n0_ n1_ n2_ n3_ ⊢
                have BK112 := n0_
                have BK126 := n1_
                have BK134 := n2_
                have HB := n3_
                clear n0_ n1_ n2_ n3_
                have n0_ := Aside0.mk (blk_drew BK112.out)
                have n1_ := Aside0.mk (blk_drew BK126.out)
                have n2_ := Aside0.mk (blk_drew BK134.out)
                have n3_ := Aside0.mk (below_drew1 HB.out)
                clear BK112
                clear BK126
                clear BK134
                clear HB
                have BK112 := n0_
                have BK126 := n1_
                have BK134 := n2_
                have HB := n3_
                clear n0_ n1_ n2_ n3_
                refine start_ (n := 24) (S := fun w' => w'.cell? ⟨gb112, 0, none⟩ = some (.int .i64 t113) ∧ w'.cell? ⟨gb112, 1, none⟩ = some (.int .i64 t114) ∧ w'.cell? ⟨gb112, 2, none⟩ = some (.int .i64 t115) ∧ w'.cell? ⟨gb112, 3, none⟩ = some (.string t116) ∧ w'.cell? ⟨gb126, 0, none⟩ = some (.int .i64 t121) ∧ w'.cell? ⟨gb126, 1, none⟩ = some (.int .i64 t122) ∧ w'.cell? ⟨gb126, 2, none⟩ = some (.int .i64 t123) ∧ w'.cell? ⟨gb126, 3, none⟩ = some (.string t124) ∧ w'.cell? ⟨gb134, 0, none⟩ = some (.int .i64 t129) ∧ w'.cell? ⟨gb134, 1, none⟩ = some (.int .i64 t130) ∧ w'.cell? ⟨gb134, 2, none⟩ = some (.int .i64 t131) ∧ w'.cell? ⟨gb134, 3, none⟩ = some (.string t132)) (ds := []) #[false, false, false, false, false, false, false, false, false, false, false, false, false, false, false, false, false, false, false, false, false, false, false, false] (by kernel_rfl) rfl rfl ⟨(blk_cell BK112.out 0).trans rfl, (blk_cell BK112.out 1).trans rfl, (blk_cell BK112.out 2).trans rfl, (blk_cell BK112.out 3).trans rfl, (blk_cell BK126.out 0).trans rfl, (blk_cell BK126.out 1).trans rfl, (blk_cell BK126.out 2).trans rfl, (blk_cell BK126.out 3).trans rfl, (blk_cell BK134.out 0).trans rfl, (blk_cell BK134.out 1).trans rfl, (blk_cell BK134.out 2).trans rfl, (blk_cell BK134.out 3).trans rfl⟩ (fun hHeld => ?_); refine with_tabW footwaylaw02_FrameTells.tab7 footwaylaw02_FrameTells.bits7 (fun HT_ HW_ => ?_)
                generalize w49.drew = w50 at BK112 BK126 BK134 HB hHeld ⊢
                refine take_ (i := 0) (N := some 47) (v := ?_) (a' := ?_) #[true, false, false, false, false, false, false, false, false, false, false, false, false, false, false, false, false, false, false, false, false, false, false, false] rfl rfl (take_ofW HT_.out HW_.out (by kernel_rfl)) (fun _ _ _ h => h) (Or.inl ⟨by rfl, ?_⟩) hHeld ?_ ?_
                rotate_left
                · rintro w' ⟨s0, s1, s2, s3, s4, s5, s6, s7, s8, s9, s10, s11⟩
                  go_simp
                  with_reducible rfl
                rotate_left
                · simp only [Act.put, List.setIfInBounds_toArray, List.set_cons_zero, List.set_cons_succ, i64_w, i32_w]
                  rfl
                refine take_ (i := 2) (N := some 49) (v := ?_) (a' := ?_) #[true, false, true, false, false, false, false, false, false, false, false, false, false, false, false, false, false, false, false, false, false, false, false, false] rfl rfl (take_ofW HT_.out HW_.out (by kernel_rfl)) (fun _ _ _ h => h) (Or.inl ⟨by rfl, ?_⟩) hHeld ?_ ?_
                rotate_left
                · rintro w' ⟨s0, s1, s2, s3, s4, s5, s6, s7, s8, s9, s10, s11⟩
                  go_simp
                  with_reducible rfl
                rotate_left
                · simp only [Act.put, List.setIfInBounds_toArray, List.set_cons_zero, List.set_cons_succ, i64_w, i32_w]
                  rfl
                refine one_ (i := 1) (N := some 48) #[true, true, true, false, false, false, false, false, false, false, false, false, false, false, false, false, false, false, false, false, false, false, false, false] rfl rfl (one_of HT_.out (by kernel_rfl)) (by decide) (fun K hK => ?_)
                refine goes_ Try.func18 (by kernel_rfl) rfl #[.agg #[.int .i64 t113, .int .i64 t114, .int .i64 t115, .string t116]] (by rfl) rfl rfl (by (try simp only [List.map_toArray, List.map_cons, List.map_nil]); first | done | rfl | (simp only [List.length_drop, List.length_take]; rfl)) ?_
                with_reducible refine (frame_Right.calls t113 t114 t115 t116 t135 _ A34.out).mono ?_
                rintro e w51 ⟨rfl, hb⟩
                refine ⟨_, rfl, ?_⟩
                have n0_ := Aside0.mk (blk_below (g := gb112) (o := .cells #[.int .i64 t113, .int .i64 t114, .int .i64 t115, .string t116] 23 (0, 0)) (by (with_reducible repeat (first | refine blk_drewN ?_ _ | refine blk_drew ?_ | refine blk_alloc ?_ _)); exact BK112.out) hb)
                have n1_ := Aside0.mk (blk_below (g := gb126) (o := .cells #[.int .i64 t121, .int .i64 t122, .int .i64 t123, .string t124] 23 (0, 0)) (by (with_reducible repeat (first | refine blk_drewN ?_ _ | refine blk_drew ?_ | refine blk_alloc ?_ _)); exact BK126.out) hb)
                have n2_ := Aside0.mk (blk_below (g := gb134) (o := .cells #[.int .i64 t129, .int .i64 t130, .int .i64 t131, .string t132] 23 (0, 0)) (by (with_reducible repeat (first | refine blk_drewN ?_ _ | refine blk_drew ?_ | refine blk_alloc ?_ _)); exact BK134.out) hb)
                have n3_ := Aside0.mk (below_step (by repeat (first | (with_reducible first | exact HB.out | apply below_alloc | apply pw_below_drewN | apply below_drew1 | refine below_set ?_ GE112.out | refine below_set ?_ GE126.out | refine below_set ?_ GE134.out) | exact HB.out)) hb)
                clear BK112
                clear BK126
                clear BK134
                clear HB
                have BK112 := n0_
                have BK126 := n1_
                have BK134 := n2_
                have HB := n3_
                clear n0_ n1_ n2_ n3_
                (try clear hb)
                (try clear hb2)
                (try clear hk)
                (try clear hi)
                refine hK.out _ _ ⟨(blk_cell BK112.out 0).trans rfl, (blk_cell BK112.out 1).trans rfl, (blk_cell BK112.out 2).trans rfl, (blk_cell BK112.out 3).trans rfl, (blk_cell BK126.out 0).trans rfl, (blk_cell BK126.out 1).trans rfl, (blk_cell BK126.out 2).trans rfl, (blk_cell BK126.out 3).trans rfl, (blk_cell BK134.out 0).trans rfl, (blk_cell BK134.out 1).trans rfl, (blk_cell BK134.out 2).trans rfl, (blk_cell BK134.out 3).trans rfl⟩ (fun hHeld => ?_)
                clear hK K
                refine norm_ (a' := ?_) ?_ ?_
                rotate_left
                · show Act.put _ (some 48) _ = _
                  simp only [Act.put, List.setIfInBounds_toArray, List.set_cons_zero, List.set_cons_succ, i64_w, i32_w]
                  rfl
                refine one_ (i := 3) (N := some 50) #[true, true, true, true, false, false, false, false, false, false, false, false, false, false, false, false, false, false, false, false, false, false, false, false] rfl rfl (one_of HT_.out (by kernel_rfl)) (by decide) (fun K hK => ?_)
                refine goes_ Try.func25 (by kernel_rfl) rfl #[.agg #[.int .i64 t113, .int .i64 t114, .int .i64 t115, .string t116]] (by rfl) rfl rfl (by (try simp only [List.map_toArray, List.map_cons, List.map_nil]); first | done | rfl | (simp only [List.length_drop, List.length_take]; rfl)) ?_
                with_reducible refine (footwayref02_Right.calls t113 t114 t115 t116 t136 _ A35.out).mono ?_
                rintro e w52 ⟨rfl, hb⟩
                refine ⟨_, rfl, ?_⟩
                have n0_ := Aside0.mk (blk_below (g := gb112) (o := .cells #[.int .i64 t113, .int .i64 t114, .int .i64 t115, .string t116] 23 (0, 0)) (by (with_reducible repeat (first | refine blk_drewN ?_ _ | refine blk_drew ?_ | refine blk_alloc ?_ _)); exact BK112.out) hb)
                have n1_ := Aside0.mk (blk_below (g := gb126) (o := .cells #[.int .i64 t121, .int .i64 t122, .int .i64 t123, .string t124] 23 (0, 0)) (by (with_reducible repeat (first | refine blk_drewN ?_ _ | refine blk_drew ?_ | refine blk_alloc ?_ _)); exact BK126.out) hb)
                have n2_ := Aside0.mk (blk_below (g := gb134) (o := .cells #[.int .i64 t129, .int .i64 t130, .int .i64 t131, .string t132] 23 (0, 0)) (by (with_reducible repeat (first | refine blk_drewN ?_ _ | refine blk_drew ?_ | refine blk_alloc ?_ _)); exact BK134.out) hb)
                have n3_ := Aside0.mk (below_step (by repeat (first | (with_reducible first | exact HB.out | apply below_alloc | apply pw_below_drewN | apply below_drew1 | refine below_set ?_ GE112.out | refine below_set ?_ GE126.out | refine below_set ?_ GE134.out) | exact HB.out)) hb)
                clear BK112
                clear BK126
                clear BK134
                clear HB
                have BK112 := n0_
                have BK126 := n1_
                have BK134 := n2_
                have HB := n3_
                clear n0_ n1_ n2_ n3_
                (try clear hb)
                (try clear hb2)
                (try clear hk)
                (try clear hi)
                refine hK.out _ _ ⟨(blk_cell BK112.out 0).trans rfl, (blk_cell BK112.out 1).trans rfl, (blk_cell BK112.out 2).trans rfl, (blk_cell BK112.out 3).trans rfl, (blk_cell BK126.out 0).trans rfl, (blk_cell BK126.out 1).trans rfl, (blk_cell BK126.out 2).trans rfl, (blk_cell BK126.out 3).trans rfl, (blk_cell BK134.out 0).trans rfl, (blk_cell BK134.out 1).trans rfl, (blk_cell BK134.out 2).trans rfl, (blk_cell BK134.out 3).trans rfl⟩ (fun hHeld => ?_)
                clear hK K
                refine norm_ (a' := ?_) ?_ ?_
                rotate_left
                · show Act.put _ (some 50) _ = _
                  simp only [Act.put, List.setIfInBounds_toArray, List.set_cons_zero, List.set_cons_succ, i64_w, i32_w]
                  rfl
                refine pure_ (i := 4) (N := some 51) (v := ?_) (a' := ?_) #[true, true, true, true, true, false, false, false, false, false, false, false, false, false, false, false, false, false, false, false, false, false, false, false] rfl rfl (any_of HT_.out (by kernel_rfl)) (fun _ _ _ h => h) (Or.inl ⟨by rfl, ?_⟩) ?_ ?_
                rotate_left
                · intro w'
                  go_simp
                  with_reducible rfl
                rotate_left
                · simp only [Act.put, List.setIfInBounds_toArray, List.set_cons_zero, List.set_cons_succ, i64_w, i32_w]
                  rfl
                refine pure_ (i := 5) (N := some 52) (v := ?_) (a' := ?_) #[true, true, true, true, true, true, false, false, false, false, false, false, false, false, false, false, false, false, false, false, false, false, false, false] rfl rfl (any_of HT_.out (by kernel_rfl)) (fun _ _ _ h => h) (Or.inl ⟨by rfl, ?_⟩) ?_ ?_
                rotate_left
                · intro w'
                  go_simp
                  with_reducible rfl
                rotate_left
                · simp only [Act.put, List.setIfInBounds_toArray, List.set_cons_zero, List.set_cons_succ, i64_w, i32_w]
                  rfl
                refine take_ (i := 6) (N := some 53) (v := ?_) (a' := ?_) #[true, true, true, true, true, true, true, false, false, false, false, false, false, false, false, false, false, false, false, false, false, false, false, false] rfl rfl (take_ofW HT_.out HW_.out (by kernel_rfl)) (fun _ _ _ h => h) (Or.inl ⟨by rfl, ?_⟩) hHeld ?_ ?_
                rotate_left
                · rintro w' ⟨s0, s1, s2, s3, s4, s5, s6, s7, s8, s9, s10, s11⟩
                  go_simp
                  with_reducible rfl
                rotate_left
                · simp only [Act.put, List.setIfInBounds_toArray, List.set_cons_zero, List.set_cons_succ, i64_w, i32_w]
                  rfl
                refine take_ (i := 7) (N := some 54) (v := ?_) (a' := ?_) #[true, true, true, true, true, true, true, true, false, false, false, false, false, false, false, false, false, false, false, false, false, false, false, false] rfl rfl (take_ofW HT_.out HW_.out (by kernel_rfl)) (fun _ _ _ h => h) (Or.inl ⟨by rfl, ?_⟩) hHeld ?_ ?_
                rotate_left
                · rintro w' ⟨s0, s1, s2, s3, s4, s5, s6, s7, s8, s9, s10, s11⟩
                  go_simp
                  with_reducible rfl
                rotate_left
                · simp only [Act.put, List.setIfInBounds_toArray, List.set_cons_zero, List.set_cons_succ, i64_w, i32_w]
                  rfl
                refine pure_ (i := 8) (N := some 55) (v := ?_) (a' := ?_) #[true, true, true, true, true, true, true, true, true, false, false, false, false, false, false, false, false, false, false, false, false, false, false, false] rfl rfl (any_of HT_.out (by kernel_rfl)) (fun _ _ _ h => h) (Or.inl ⟨by rfl, ?_⟩) ?_ ?_
                rotate_left
                · intro w'
                  go_simp
                  with_reducible rfl
                rotate_left
                · simp only [Act.put, List.setIfInBounds_toArray, List.set_cons_zero, List.set_cons_succ, i64_w, i32_w]
                  rfl
                refine pure_ (i := 9) (N := some 56) (v := ?_) (a' := ?_) #[true, true, true, true, true, true, true, true, true, true, false, false, false, false, false, false, false, false, false, false, false, false, false, false] rfl rfl (any_of HT_.out (by kernel_rfl)) (fun _ _ _ h => h) (Or.inl ⟨by rfl, ?_⟩) ?_ ?_
                rotate_left
                · intro w'
                  go_simp
                  with_reducible rfl
                rotate_left
                · simp only [Act.put, List.setIfInBounds_toArray, List.set_cons_zero, List.set_cons_succ, i64_w, i32_w]
                  rfl
                refine pure_ (i := 10) (N := some 57) (v := ?_) (a' := ?_) #[true, true, true, true, true, true, true, true, true, true, true, false, false, false, false, false, false, false, false, false, false, false, false, false] rfl rfl (any_of HT_.out (by kernel_rfl)) (fun _ _ _ h => h) (Or.inl ⟨by rfl, ?_⟩) ?_ ?_
                rotate_left
                · intro w'
                  go_simp
                  with_reducible rfl
                rotate_left
                · simp only [Act.put, List.setIfInBounds_toArray, List.set_cons_zero, List.set_cons_succ, i64_w, i32_w]
                  rfl
                refine pure_ (i := 11) (N := some 58) (v := ?_) (a' := ?_) #[true, true, true, true, true, true, true, true, true, true, true, true, false, false, false, false, false, false, false, false, false, false, false, false] rfl rfl (any_of HT_.out (by kernel_rfl)) (fun _ _ _ h => h) (Or.inl ⟨by rfl, ?_⟩) ?_ ?_
                rotate_left
                · intro w'
                  go_simp
                  with_reducible rfl
                rotate_left
                · simp only [Act.put, List.setIfInBounds_toArray, List.set_cons_zero, List.set_cons_succ, i64_w, i32_w]
                  rfl
                refine pure_ (i := 12) (N := some 59) (v := ?_) (a' := ?_) #[true, true, true, true, true, true, true, true, true, true, true, true, true, false, false, false, false, false, false, false, false, false, false, false] rfl rfl (any_of HT_.out (by kernel_rfl)) (fun _ _ _ h => h) (Or.inl ⟨by rfl, ?_⟩) ?_ ?_
                rotate_left
                · intro w'
                  go_simp
                  with_reducible rfl
                rotate_left
                · simp only [Act.put, List.setIfInBounds_toArray, List.set_cons_zero, List.set_cons_succ, i64_w, i32_w]
                  rfl
                refine pure_ (i := 13) (N := some 60) (v := ?_) (a' := ?_) #[true, true, true, true, true, true, true, true, true, true, true, true, true, true, false, false, false, false, false, false, false, false, false, false] rfl rfl (any_of HT_.out (by kernel_rfl)) (fun _ _ _ h => h) (Or.inl ⟨by rfl, ?_⟩) ?_ ?_
                rotate_left
                · intro w'
                  go_simp
                  with_reducible rfl
                rotate_left
                · simp only [Act.put, List.setIfInBounds_toArray, List.set_cons_zero, List.set_cons_succ, i64_w, i32_w]
                  rfl
                refine pure_ (i := 14) (N := some 61) (v := ?_) (a' := ?_) #[true, true, true, true, true, true, true, true, true, true, true, true, true, true, true, false, false, false, false, false, false, false, false, false] rfl rfl (any_of HT_.out (by kernel_rfl)) (fun _ _ _ h => h) (Or.inl ⟨by rfl, ?_⟩) ?_ ?_
                rotate_left
                · intro w'
                  go_simp
                  with_reducible rfl
                rotate_left
                · simp only [Act.put, List.setIfInBounds_toArray, List.set_cons_zero, List.set_cons_succ, i64_w, i32_w]
                  rfl
                refine pure_ (i := 15) (N := some 62) (v := ?_) (a' := ?_) #[true, true, true, true, true, true, true, true, true, true, true, true, true, true, true, true, false, false, false, false, false, false, false, false] rfl rfl (any_of HT_.out (by kernel_rfl)) (fun _ _ _ h => h) (Or.inl ⟨by rfl, ?_⟩) ?_ ?_
                rotate_left
                · intro w'
                  go_simp
                  with_reducible rfl
                rotate_left
                · simp only [Act.put, List.setIfInBounds_toArray, List.set_cons_zero, List.set_cons_succ, i64_w, i32_w]
                  rfl
                refine pure_ (i := 16) (N := some 63) (v := ?_) (a' := ?_) #[true, true, true, true, true, true, true, true, true, true, true, true, true, true, true, true, true, false, false, false, false, false, false, false] rfl rfl (any_of HT_.out (by kernel_rfl)) (fun _ _ _ h => h) (Or.inl ⟨by rfl, ?_⟩) ?_ ?_
                rotate_left
                · intro w'
                  go_simp
                  with_reducible rfl
                rotate_left
                · simp only [Act.put, List.setIfInBounds_toArray, List.set_cons_zero, List.set_cons_succ, i64_w, i32_w]
                  rfl
                refine pure_ (i := 17) (N := some 64) (v := ?_) (a' := ?_) #[true, true, true, true, true, true, true, true, true, true, true, true, true, true, true, true, true, true, false, false, false, false, false, false] rfl rfl (any_of HT_.out (by kernel_rfl)) (fun _ _ _ h => h) (Or.inl ⟨by rfl, ?_⟩) ?_ ?_
                rotate_left
                · intro w'
                  go_simp
                  with_reducible rfl
                rotate_left
                · simp only [Act.put, List.setIfInBounds_toArray, List.set_cons_zero, List.set_cons_succ, i64_w, i32_w]
                  rfl
                refine pure_ (i := 18) (N := some 65) (v := ?_) (a' := ?_) #[true, true, true, true, true, true, true, true, true, true, true, true, true, true, true, true, true, true, true, false, false, false, false, false] rfl rfl (any_of HT_.out (by kernel_rfl)) (fun _ _ _ h => h) (Or.inl ⟨by rfl, ?_⟩) ?_ ?_
                rotate_left
                · intro w'
                  go_simp
                  with_reducible rfl
                rotate_left
                · simp only [Act.put, List.setIfInBounds_toArray, List.set_cons_zero, List.set_cons_succ, i64_w, i32_w]
                  rfl
                refine pure_ (i := 19) (N := some 66) (v := ?_) (a' := ?_) #[true, true, true, true, true, true, true, true, true, true, true, true, true, true, true, true, true, true, true, true, false, false, false, false] rfl rfl (any_of HT_.out (by kernel_rfl)) (fun _ _ _ h => h) (Or.inl ⟨by rfl, ?_⟩) ?_ ?_
                rotate_left
                · intro w'
                  go_simp
                  with_reducible rfl
                rotate_left
                · simp only [Act.put, List.setIfInBounds_toArray, List.set_cons_zero, List.set_cons_succ, i64_w, i32_w]
                  rfl
                refine pure_ (i := 20) (N := some 67) (v := ?_) (a' := ?_) #[true, true, true, true, true, true, true, true, true, true, true, true, true, true, true, true, true, true, true, true, true, false, false, false] rfl rfl (any_of HT_.out (by kernel_rfl)) (fun _ _ _ h => h) (Or.inl ⟨by rfl, ?_⟩) ?_ ?_
                rotate_left
                · intro w'
                  go_simp
                  with_reducible rfl
                rotate_left
                · simp only [Act.put, List.setIfInBounds_toArray, List.set_cons_zero, List.set_cons_succ, i64_w, i32_w]
                  rfl
                refine one_ (i := 21) (N := some 68) #[true, true, true, true, true, true, true, true, true, true, true, true, true, true, true, true, true, true, true, true, true, true, false, false] rfl rfl (one_of HT_.out (by kernel_rfl)) (by decide) (fun K hK => ?_)
                refine goes_ Try.func19 (by kernel_rfl) rfl #[] (by rfl) rfl rfl (by (try simp only [List.map_toArray, List.map_cons, List.map_nil]); first | done | rfl | (simp only [List.length_drop, List.length_take]; rfl)) ?_
                with_reducible refine (footwaylaw02_alive.calls  t137 _ A48.out).mono ?_
                rintro e w53 ⟨rfl, hb⟩
                refine ⟨_, rfl, ?_⟩
                have n0_ := Aside0.mk (blk_below (g := gb112) (o := .cells #[.int .i64 t113, .int .i64 t114, .int .i64 t115, .string t116] 23 (0, 0)) (by (with_reducible repeat (first | refine blk_drewN ?_ _ | refine blk_drew ?_ | refine blk_alloc ?_ _)); exact BK112.out) hb)
                have n1_ := Aside0.mk (blk_below (g := gb126) (o := .cells #[.int .i64 t121, .int .i64 t122, .int .i64 t123, .string t124] 23 (0, 0)) (by (with_reducible repeat (first | refine blk_drewN ?_ _ | refine blk_drew ?_ | refine blk_alloc ?_ _)); exact BK126.out) hb)
                have n2_ := Aside0.mk (blk_below (g := gb134) (o := .cells #[.int .i64 t129, .int .i64 t130, .int .i64 t131, .string t132] 23 (0, 0)) (by (with_reducible repeat (first | refine blk_drewN ?_ _ | refine blk_drew ?_ | refine blk_alloc ?_ _)); exact BK134.out) hb)
                have n3_ := Aside0.mk (below_step (by repeat (first | (with_reducible first | exact HB.out | apply below_alloc | apply pw_below_drewN | apply below_drew1 | refine below_set ?_ GE112.out | refine below_set ?_ GE126.out | refine below_set ?_ GE134.out) | exact HB.out)) hb)
                clear BK112
                clear BK126
                clear BK134
                clear HB
                have BK112 := n0_
                have BK126 := n1_
                have BK134 := n2_
                have HB := n3_
                clear n0_ n1_ n2_ n3_
                (try clear hb)
                (try clear hb2)
                (try clear hk)
                (try clear hi)
                refine hK.out _ _ ⟨(blk_cell BK112.out 0).trans rfl, (blk_cell BK112.out 1).trans rfl, (blk_cell BK112.out 2).trans rfl, (blk_cell BK112.out 3).trans rfl, (blk_cell BK126.out 0).trans rfl, (blk_cell BK126.out 1).trans rfl, (blk_cell BK126.out 2).trans rfl, (blk_cell BK126.out 3).trans rfl, (blk_cell BK134.out 0).trans rfl, (blk_cell BK134.out 1).trans rfl, (blk_cell BK134.out 2).trans rfl, (blk_cell BK134.out 3).trans rfl⟩ (fun hHeld => ?_)
                clear hK K
                refine norm_ (a' := ?_) ?_ ?_
                rotate_left
                · show Act.put _ (some 68) _ = _
                  simp only [Act.put, List.setIfInBounds_toArray, List.set_cons_zero, List.set_cons_succ, i64_w, i32_w]
                  rfl
                refine pure_ (i := 22) (N := some 69) (v := ?_) (a' := ?_) #[true, true, true, true, true, true, true, true, true, true, true, true, true, true, true, true, true, true, true, true, true, true, true, false] rfl rfl (any_of HT_.out (by kernel_rfl)) (fun _ _ _ h => h) (Or.inl ⟨by rfl, ?_⟩) ?_ ?_
                rotate_left
                · intro w'
                  go_simp
                  with_reducible rfl
                rotate_left
                · simp only [Act.put, List.setIfInBounds_toArray, List.set_cons_zero, List.set_cons_succ, i64_w, i32_w]
                  rfl
                refine pure_ (i := 23) (N := some 70) (v := ?_) (a' := ?_) #[true, true, true, true, true, true, true, true, true, true, true, true, true, true, true, true, true, true, true, true, true, true, true, true] rfl rfl (any_of HT_.out (by kernel_rfl)) (fun _ _ _ h => h) (Or.inl ⟨by rfl, ?_⟩) ?_ ?_
                rotate_left
                · intro w'
                  go_simp
                  with_reducible rfl
                rotate_left
                · simp only [Act.put, List.setIfInBounds_toArray, List.set_cons_zero, List.set_cons_succ, i64_w, i32_w]
                  rfl
                refine done_ (done_of HT_.out (by kernel_rfl)) ?_
                try go_wp2
                go_meet
                case rel => exact ⟨_, (!t137), (by first | rfl | (simp; done) | (simp [*]; done)), H', ⟨by first | omega | exact Nat.le_refl _⟩, ⟨by (with_reducible repeat (first | refine blk_drewN ?_ _ | refine blk_drew ?_ | refine blk_alloc ?_ _)); exact BK112.out⟩, ⟨by (with_reducible repeat (first | refine blk_drewN ?_ _ | refine blk_drew ?_ | refine blk_alloc ?_ _)); exact BK126.out⟩, ⟨by (with_reducible repeat (first | refine blk_drewN ?_ _ | refine blk_drew ?_ | refine blk_alloc ?_ _)); exact BK134.out⟩, ⟨by repeat (first | (with_reducible first | exact HB.out | apply below_alloc | apply pw_below_drewN | apply below_drew1 | refine below_set ?_ GE112.out | refine below_set ?_ GE126.out | refine below_set ?_ GE134.out) | exact HB.out)⟩⟩
              · rw [if_neg c47] at H
                have c47b0 : (t128 == t133) = false := beq_eq_false_iff_ne.mpr c47
                have c47b1 : (t128 != t133) = true := bne_iff_ne.mpr c47
                have H' := Aside0.mk H
                clear H
                try go_wp2
                have n0_ : Aside0 (((((w30.setCell ⟨gb134, 0, none⟩ (.int .i64 t129)).setCell ⟨gb134, 1, none⟩ (.int .i64 t130)).setCell ⟨gb134, 2, none⟩ (.int .i64 t131)).setCell ⟨gb134, 3, none⟩ (.string t132)).heap[gb112]? = some (.cells #[.int .i64 t113, .int .i64 t114, .int .i64 t115, .string t116] 23 (0, 0))) := ⟨by (with_reducible repeat (first | refine blk_drewN ?_ _ | refine blk_drew ?_ | refine blk_alloc ?_ _)); refine blk_far ?_ NB112_134.out _; (with_reducible repeat (first | refine blk_drewN ?_ _ | refine blk_drew ?_ | refine blk_alloc ?_ _)); refine blk_far ?_ NB112_134.out _; (with_reducible repeat (first | refine blk_drewN ?_ _ | refine blk_drew ?_ | refine blk_alloc ?_ _)); refine blk_far ?_ NB112_134.out _; (with_reducible repeat (first | refine blk_drewN ?_ _ | refine blk_drew ?_ | refine blk_alloc ?_ _)); refine blk_far ?_ NB112_134.out _; (with_reducible repeat (first | refine blk_drewN ?_ _ | refine blk_drew ?_ | refine blk_alloc ?_ _)); exact BK112.out⟩
                have n1_ : Aside0 (((((w30.setCell ⟨gb134, 0, none⟩ (.int .i64 t129)).setCell ⟨gb134, 1, none⟩ (.int .i64 t130)).setCell ⟨gb134, 2, none⟩ (.int .i64 t131)).setCell ⟨gb134, 3, none⟩ (.string t132)).heap[gb126]? = some (.cells #[.int .i64 t121, .int .i64 t122, .int .i64 t123, .string t124] 23 (0, 0))) := ⟨by (with_reducible repeat (first | refine blk_drewN ?_ _ | refine blk_drew ?_ | refine blk_alloc ?_ _)); refine blk_far ?_ NB126_134.out _; (with_reducible repeat (first | refine blk_drewN ?_ _ | refine blk_drew ?_ | refine blk_alloc ?_ _)); refine blk_far ?_ NB126_134.out _; (with_reducible repeat (first | refine blk_drewN ?_ _ | refine blk_drew ?_ | refine blk_alloc ?_ _)); refine blk_far ?_ NB126_134.out _; (with_reducible repeat (first | refine blk_drewN ?_ _ | refine blk_drew ?_ | refine blk_alloc ?_ _)); refine blk_far ?_ NB126_134.out _; (with_reducible repeat (first | refine blk_drewN ?_ _ | refine blk_drew ?_ | refine blk_alloc ?_ _)); exact BK126.out⟩
                have n2_ : Aside0 (((((w30.setCell ⟨gb134, 0, none⟩ (.int .i64 t129)).setCell ⟨gb134, 1, none⟩ (.int .i64 t130)).setCell ⟨gb134, 2, none⟩ (.int .i64 t131)).setCell ⟨gb134, 3, none⟩ (.string t132)).heap[gb134]? = some (.cells #[.int .i64 t129, .int .i64 t130, .int .i64 t131, .string t132] 23 (0, 0))) := ⟨by (with_reducible repeat (first | refine blk_drewN ?_ _ | refine blk_drew ?_ | refine blk_alloc ?_ _)); refine blk_put (cs := #[.int .i64 t129, .int .i64 t130, .int .i64 t131, .string (⟨#[]⟩ : ByteArray)]) ?_ 3 _ rfl; (with_reducible repeat (first | refine blk_drewN ?_ _ | refine blk_drew ?_ | refine blk_alloc ?_ _)); refine blk_put (cs := #[.int .i64 t129, .int .i64 t130, .int .i64 0, .string (⟨#[]⟩ : ByteArray)]) ?_ 2 _ rfl; (with_reducible repeat (first | refine blk_drewN ?_ _ | refine blk_drew ?_ | refine blk_alloc ?_ _)); refine blk_put (cs := #[.int .i64 t129, .int .i64 0, .int .i64 0, .string (⟨#[]⟩ : ByteArray)]) ?_ 1 _ rfl; (with_reducible repeat (first | refine blk_drewN ?_ _ | refine blk_drew ?_ | refine blk_alloc ?_ _)); refine blk_put (cs := #[.int .i64 0, .int .i64 0, .int .i64 0, .string (⟨#[]⟩ : ByteArray)]) ?_ 0 _ rfl; (with_reducible repeat (first | refine blk_drewN ?_ _ | refine blk_drew ?_ | refine blk_alloc ?_ _)); exact BK134.out⟩
                have n3_ : Aside0 (Below w.heap.size w ((((w30.setCell ⟨gb134, 0, none⟩ (.int .i64 t129)).setCell ⟨gb134, 1, none⟩ (.int .i64 t130)).setCell ⟨gb134, 2, none⟩ (.int .i64 t131)).setCell ⟨gb134, 3, none⟩ (.string t132))) := ⟨by repeat (first | (with_reducible first | exact HB.out | apply below_alloc | apply pw_below_drewN | apply below_drew1 | refine below_set ?_ GE112.out | refine below_set ?_ GE126.out | refine below_set ?_ GE134.out) | exact HB.out)⟩
                (try clear BK112)
                (try clear BK126)
                (try clear BK134)
                (try clear HB)
                generalize ((((w30.setCell ⟨gb134, 0, none⟩ (.int .i64 t129)).setCell ⟨gb134, 1, none⟩ (.int .i64 t130)).setCell ⟨gb134, 2, none⟩ (.int .i64 t131)).setCell ⟨gb134, 3, none⟩ (.string t132)) = w54 at n0_ n1_ n2_ n3_ ⊢
                have BK112 := n0_
                have BK126 := n1_
                have BK134 := n2_
                have HB := n3_
                clear n0_ n1_ n2_ n3_
                have n0_ := Aside0.mk (blk_drew BK112.out)
                have n1_ := Aside0.mk (blk_drew BK126.out)
                have n2_ := Aside0.mk (blk_drew BK134.out)
                have n3_ := Aside0.mk (below_drew1 HB.out)
                clear BK112
                clear BK126
                clear BK134
                clear HB
                have BK112 := n0_
                have BK126 := n1_
                have BK134 := n2_
                have HB := n3_
                clear n0_ n1_ n2_ n3_
                refine start_ (n := 24) (S := fun w' => w'.cell? ⟨gb112, 0, none⟩ = some (.int .i64 t113) ∧ w'.cell? ⟨gb112, 1, none⟩ = some (.int .i64 t114) ∧ w'.cell? ⟨gb112, 2, none⟩ = some (.int .i64 t115) ∧ w'.cell? ⟨gb112, 3, none⟩ = some (.string t116) ∧ w'.cell? ⟨gb126, 0, none⟩ = some (.int .i64 t121) ∧ w'.cell? ⟨gb126, 1, none⟩ = some (.int .i64 t122) ∧ w'.cell? ⟨gb126, 2, none⟩ = some (.int .i64 t123) ∧ w'.cell? ⟨gb126, 3, none⟩ = some (.string t124) ∧ w'.cell? ⟨gb134, 0, none⟩ = some (.int .i64 t129) ∧ w'.cell? ⟨gb134, 1, none⟩ = some (.int .i64 t130) ∧ w'.cell? ⟨gb134, 2, none⟩ = some (.int .i64 t131) ∧ w'.cell? ⟨gb134, 3, none⟩ = some (.string t132)) (ds := []) #[false, false, false, false, false, false, false, false, false, false, false, false, false, false, false, false, false, false, false, false, false, false, false, false] (by kernel_rfl) rfl rfl ⟨(blk_cell BK112.out 0).trans rfl, (blk_cell BK112.out 1).trans rfl, (blk_cell BK112.out 2).trans rfl, (blk_cell BK112.out 3).trans rfl, (blk_cell BK126.out 0).trans rfl, (blk_cell BK126.out 1).trans rfl, (blk_cell BK126.out 2).trans rfl, (blk_cell BK126.out 3).trans rfl, (blk_cell BK134.out 0).trans rfl, (blk_cell BK134.out 1).trans rfl, (blk_cell BK134.out 2).trans rfl, (blk_cell BK134.out 3).trans rfl⟩ (fun hHeld => ?_); refine with_tabW footwaylaw02_FrameTells.tab7 footwaylaw02_FrameTells.bits7 (fun HT_ HW_ => ?_)
                generalize w54.drew = w55 at BK112 BK126 BK134 HB hHeld ⊢
                refine take_ (i := 0) (N := some 47) (v := ?_) (a' := ?_) #[true, false, false, false, false, false, false, false, false, false, false, false, false, false, false, false, false, false, false, false, false, false, false, false] rfl rfl (take_ofW HT_.out HW_.out (by kernel_rfl)) (fun _ _ _ h => h) (Or.inl ⟨by rfl, ?_⟩) hHeld ?_ ?_
                rotate_left
                · rintro w' ⟨s0, s1, s2, s3, s4, s5, s6, s7, s8, s9, s10, s11⟩
                  go_simp
                  with_reducible rfl
                rotate_left
                · simp only [Act.put, List.setIfInBounds_toArray, List.set_cons_zero, List.set_cons_succ, i64_w, i32_w]
                  rfl
                refine take_ (i := 2) (N := some 49) (v := ?_) (a' := ?_) #[true, false, true, false, false, false, false, false, false, false, false, false, false, false, false, false, false, false, false, false, false, false, false, false] rfl rfl (take_ofW HT_.out HW_.out (by kernel_rfl)) (fun _ _ _ h => h) (Or.inl ⟨by rfl, ?_⟩) hHeld ?_ ?_
                rotate_left
                · rintro w' ⟨s0, s1, s2, s3, s4, s5, s6, s7, s8, s9, s10, s11⟩
                  go_simp
                  with_reducible rfl
                rotate_left
                · simp only [Act.put, List.setIfInBounds_toArray, List.set_cons_zero, List.set_cons_succ, i64_w, i32_w]
                  rfl
                refine one_ (i := 1) (N := some 48) #[true, true, true, false, false, false, false, false, false, false, false, false, false, false, false, false, false, false, false, false, false, false, false, false] rfl rfl (one_of HT_.out (by kernel_rfl)) (by decide) (fun K hK => ?_)
                refine goes_ Try.func18 (by kernel_rfl) rfl #[.agg #[.int .i64 t113, .int .i64 t114, .int .i64 t115, .string t116]] (by rfl) rfl rfl (by (try simp only [List.map_toArray, List.map_cons, List.map_nil]); first | done | rfl | (simp only [List.length_drop, List.length_take]; rfl)) ?_
                with_reducible refine (frame_Right.calls t113 t114 t115 t116 t135 _ A34.out).mono ?_
                rintro e w56 ⟨rfl, hb⟩
                refine ⟨_, rfl, ?_⟩
                have n0_ := Aside0.mk (blk_below (g := gb112) (o := .cells #[.int .i64 t113, .int .i64 t114, .int .i64 t115, .string t116] 23 (0, 0)) (by (with_reducible repeat (first | refine blk_drewN ?_ _ | refine blk_drew ?_ | refine blk_alloc ?_ _)); exact BK112.out) hb)
                have n1_ := Aside0.mk (blk_below (g := gb126) (o := .cells #[.int .i64 t121, .int .i64 t122, .int .i64 t123, .string t124] 23 (0, 0)) (by (with_reducible repeat (first | refine blk_drewN ?_ _ | refine blk_drew ?_ | refine blk_alloc ?_ _)); exact BK126.out) hb)
                have n2_ := Aside0.mk (blk_below (g := gb134) (o := .cells #[.int .i64 t129, .int .i64 t130, .int .i64 t131, .string t132] 23 (0, 0)) (by (with_reducible repeat (first | refine blk_drewN ?_ _ | refine blk_drew ?_ | refine blk_alloc ?_ _)); exact BK134.out) hb)
                have n3_ := Aside0.mk (below_step (by repeat (first | (with_reducible first | exact HB.out | apply below_alloc | apply pw_below_drewN | apply below_drew1 | refine below_set ?_ GE112.out | refine below_set ?_ GE126.out | refine below_set ?_ GE134.out) | exact HB.out)) hb)
                clear BK112
                clear BK126
                clear BK134
                clear HB
                have BK112 := n0_
                have BK126 := n1_
                have BK134 := n2_
                have HB := n3_
                clear n0_ n1_ n2_ n3_
                (try clear hb)
                (try clear hb2)
                (try clear hk)
                (try clear hi)
                refine hK.out _ _ ⟨(blk_cell BK112.out 0).trans rfl, (blk_cell BK112.out 1).trans rfl, (blk_cell BK112.out 2).trans rfl, (blk_cell BK112.out 3).trans rfl, (blk_cell BK126.out 0).trans rfl, (blk_cell BK126.out 1).trans rfl, (blk_cell BK126.out 2).trans rfl, (blk_cell BK126.out 3).trans rfl, (blk_cell BK134.out 0).trans rfl, (blk_cell BK134.out 1).trans rfl, (blk_cell BK134.out 2).trans rfl, (blk_cell BK134.out 3).trans rfl⟩ (fun hHeld => ?_)
                clear hK K
                refine norm_ (a' := ?_) ?_ ?_
                rotate_left
                · show Act.put _ (some 48) _ = _
                  simp only [Act.put, List.setIfInBounds_toArray, List.set_cons_zero, List.set_cons_succ, i64_w, i32_w]
                  rfl
                refine one_ (i := 3) (N := some 50) #[true, true, true, true, false, false, false, false, false, false, false, false, false, false, false, false, false, false, false, false, false, false, false, false] rfl rfl (one_of HT_.out (by kernel_rfl)) (by decide) (fun K hK => ?_)
                refine goes_ Try.func25 (by kernel_rfl) rfl #[.agg #[.int .i64 t113, .int .i64 t114, .int .i64 t115, .string t116]] (by rfl) rfl rfl (by (try simp only [List.map_toArray, List.map_cons, List.map_nil]); first | done | rfl | (simp only [List.length_drop, List.length_take]; rfl)) ?_
                with_reducible refine (footwayref02_Right.calls t113 t114 t115 t116 t136 _ A35.out).mono ?_
                rintro e w57 ⟨rfl, hb⟩
                refine ⟨_, rfl, ?_⟩
                have n0_ := Aside0.mk (blk_below (g := gb112) (o := .cells #[.int .i64 t113, .int .i64 t114, .int .i64 t115, .string t116] 23 (0, 0)) (by (with_reducible repeat (first | refine blk_drewN ?_ _ | refine blk_drew ?_ | refine blk_alloc ?_ _)); exact BK112.out) hb)
                have n1_ := Aside0.mk (blk_below (g := gb126) (o := .cells #[.int .i64 t121, .int .i64 t122, .int .i64 t123, .string t124] 23 (0, 0)) (by (with_reducible repeat (first | refine blk_drewN ?_ _ | refine blk_drew ?_ | refine blk_alloc ?_ _)); exact BK126.out) hb)
                have n2_ := Aside0.mk (blk_below (g := gb134) (o := .cells #[.int .i64 t129, .int .i64 t130, .int .i64 t131, .string t132] 23 (0, 0)) (by (with_reducible repeat (first | refine blk_drewN ?_ _ | refine blk_drew ?_ | refine blk_alloc ?_ _)); exact BK134.out) hb)
                have n3_ := Aside0.mk (below_step (by repeat (first | (with_reducible first | exact HB.out | apply below_alloc | apply pw_below_drewN | apply below_drew1 | refine below_set ?_ GE112.out | refine below_set ?_ GE126.out | refine below_set ?_ GE134.out) | exact HB.out)) hb)
                clear BK112
                clear BK126
                clear BK134
                clear HB
                have BK112 := n0_
                have BK126 := n1_
                have BK134 := n2_
                have HB := n3_
                clear n0_ n1_ n2_ n3_
                (try clear hb)
                (try clear hb2)
                (try clear hk)
                (try clear hi)
                refine hK.out _ _ ⟨(blk_cell BK112.out 0).trans rfl, (blk_cell BK112.out 1).trans rfl, (blk_cell BK112.out 2).trans rfl, (blk_cell BK112.out 3).trans rfl, (blk_cell BK126.out 0).trans rfl, (blk_cell BK126.out 1).trans rfl, (blk_cell BK126.out 2).trans rfl, (blk_cell BK126.out 3).trans rfl, (blk_cell BK134.out 0).trans rfl, (blk_cell BK134.out 1).trans rfl, (blk_cell BK134.out 2).trans rfl, (blk_cell BK134.out 3).trans rfl⟩ (fun hHeld => ?_)
                clear hK K
                refine norm_ (a' := ?_) ?_ ?_
                rotate_left
                · show Act.put _ (some 50) _ = _
                  simp only [Act.put, List.setIfInBounds_toArray, List.set_cons_zero, List.set_cons_succ, i64_w, i32_w]
                  rfl
                refine pure_ (i := 4) (N := some 51) (v := ?_) (a' := ?_) #[true, true, true, true, true, false, false, false, false, false, false, false, false, false, false, false, false, false, false, false, false, false, false, false] rfl rfl (any_of HT_.out (by kernel_rfl)) (fun _ _ _ h => h) (Or.inl ⟨by rfl, ?_⟩) ?_ ?_
                rotate_left
                · intro w'
                  go_simp
                  with_reducible rfl
                rotate_left
                · simp only [Act.put, List.setIfInBounds_toArray, List.set_cons_zero, List.set_cons_succ, i64_w, i32_w]
                  rfl
                refine pure_ (i := 5) (N := some 52) (v := ?_) (a' := ?_) #[true, true, true, true, true, true, false, false, false, false, false, false, false, false, false, false, false, false, false, false, false, false, false, false] rfl rfl (any_of HT_.out (by kernel_rfl)) (fun _ _ _ h => h) (Or.inl ⟨by rfl, ?_⟩) ?_ ?_
                rotate_left
                · intro w'
                  go_simp
                  with_reducible rfl
                rotate_left
                · simp only [Act.put, List.setIfInBounds_toArray, List.set_cons_zero, List.set_cons_succ, i64_w, i32_w]
                  rfl
                refine take_ (i := 6) (N := some 53) (v := ?_) (a' := ?_) #[true, true, true, true, true, true, true, false, false, false, false, false, false, false, false, false, false, false, false, false, false, false, false, false] rfl rfl (take_ofW HT_.out HW_.out (by kernel_rfl)) (fun _ _ _ h => h) (Or.inl ⟨by rfl, ?_⟩) hHeld ?_ ?_
                rotate_left
                · rintro w' ⟨s0, s1, s2, s3, s4, s5, s6, s7, s8, s9, s10, s11⟩
                  go_simp
                  with_reducible rfl
                rotate_left
                · simp only [Act.put, List.setIfInBounds_toArray, List.set_cons_zero, List.set_cons_succ, i64_w, i32_w]
                  rfl
                refine take_ (i := 7) (N := some 54) (v := ?_) (a' := ?_) #[true, true, true, true, true, true, true, true, false, false, false, false, false, false, false, false, false, false, false, false, false, false, false, false] rfl rfl (take_ofW HT_.out HW_.out (by kernel_rfl)) (fun _ _ _ h => h) (Or.inl ⟨by rfl, ?_⟩) hHeld ?_ ?_
                rotate_left
                · rintro w' ⟨s0, s1, s2, s3, s4, s5, s6, s7, s8, s9, s10, s11⟩
                  go_simp
                  with_reducible rfl
                rotate_left
                · simp only [Act.put, List.setIfInBounds_toArray, List.set_cons_zero, List.set_cons_succ, i64_w, i32_w]
                  rfl
                refine pure_ (i := 8) (N := some 55) (v := ?_) (a' := ?_) #[true, true, true, true, true, true, true, true, true, false, false, false, false, false, false, false, false, false, false, false, false, false, false, false] rfl rfl (any_of HT_.out (by kernel_rfl)) (fun _ _ _ h => h) (Or.inl ⟨by rfl, ?_⟩) ?_ ?_
                rotate_left
                · intro w'
                  go_simp
                  with_reducible rfl
                rotate_left
                · simp only [Act.put, List.setIfInBounds_toArray, List.set_cons_zero, List.set_cons_succ, i64_w, i32_w]
                  rfl
                refine pure_ (i := 9) (N := some 56) (v := ?_) (a' := ?_) #[true, true, true, true, true, true, true, true, true, true, false, false, false, false, false, false, false, false, false, false, false, false, false, false] rfl rfl (any_of HT_.out (by kernel_rfl)) (fun _ _ _ h => h) (Or.inl ⟨by rfl, ?_⟩) ?_ ?_
                rotate_left
                · intro w'
                  go_simp
                  with_reducible rfl
                rotate_left
                · simp only [Act.put, List.setIfInBounds_toArray, List.set_cons_zero, List.set_cons_succ, i64_w, i32_w]
                  rfl
                refine pure_ (i := 10) (N := some 57) (v := ?_) (a' := ?_) #[true, true, true, true, true, true, true, true, true, true, true, false, false, false, false, false, false, false, false, false, false, false, false, false] rfl rfl (any_of HT_.out (by kernel_rfl)) (fun _ _ _ h => h) (Or.inl ⟨by rfl, ?_⟩) ?_ ?_
                rotate_left
                · intro w'
                  go_simp
                  with_reducible rfl
                rotate_left
                · simp only [Act.put, List.setIfInBounds_toArray, List.set_cons_zero, List.set_cons_succ, i64_w, i32_w]
                  rfl
                refine pure_ (i := 11) (N := some 58) (v := ?_) (a' := ?_) #[true, true, true, true, true, true, true, true, true, true, true, true, false, false, false, false, false, false, false, false, false, false, false, false] rfl rfl (any_of HT_.out (by kernel_rfl)) (fun _ _ _ h => h) (Or.inl ⟨by rfl, ?_⟩) ?_ ?_
                rotate_left
                · intro w'
                  go_simp
                  with_reducible rfl
                rotate_left
                · simp only [Act.put, List.setIfInBounds_toArray, List.set_cons_zero, List.set_cons_succ, i64_w, i32_w]
                  rfl
                refine pure_ (i := 12) (N := some 59) (v := ?_) (a' := ?_) #[true, true, true, true, true, true, true, true, true, true, true, true, true, false, false, false, false, false, false, false, false, false, false, false] rfl rfl (any_of HT_.out (by kernel_rfl)) (fun _ _ _ h => h) (Or.inl ⟨by rfl, ?_⟩) ?_ ?_
                rotate_left
                · intro w'
                  go_simp
                  with_reducible rfl
                rotate_left
                · simp only [Act.put, List.setIfInBounds_toArray, List.set_cons_zero, List.set_cons_succ, i64_w, i32_w]
                  rfl
                refine pure_ (i := 13) (N := some 60) (v := ?_) (a' := ?_) #[true, true, true, true, true, true, true, true, true, true, true, true, true, true, false, false, false, false, false, false, false, false, false, false] rfl rfl (any_of HT_.out (by kernel_rfl)) (fun _ _ _ h => h) (Or.inl ⟨by rfl, ?_⟩) ?_ ?_
                rotate_left
                · intro w'
                  go_simp
                  with_reducible rfl
                rotate_left
                · simp only [Act.put, List.setIfInBounds_toArray, List.set_cons_zero, List.set_cons_succ, i64_w, i32_w]
                  rfl
                refine pure_ (i := 14) (N := some 61) (v := ?_) (a' := ?_) #[true, true, true, true, true, true, true, true, true, true, true, true, true, true, true, false, false, false, false, false, false, false, false, false] rfl rfl (any_of HT_.out (by kernel_rfl)) (fun _ _ _ h => h) (Or.inl ⟨by rfl, ?_⟩) ?_ ?_
                rotate_left
                · intro w'
                  go_simp
                  with_reducible rfl
                rotate_left
                · simp only [Act.put, List.setIfInBounds_toArray, List.set_cons_zero, List.set_cons_succ, i64_w, i32_w]
                  rfl
                refine pure_ (i := 15) (N := some 62) (v := ?_) (a' := ?_) #[true, true, true, true, true, true, true, true, true, true, true, true, true, true, true, true, false, false, false, false, false, false, false, false] rfl rfl (any_of HT_.out (by kernel_rfl)) (fun _ _ _ h => h) (Or.inl ⟨by rfl, ?_⟩) ?_ ?_
                rotate_left
                · intro w'
                  go_simp
                  with_reducible rfl
                rotate_left
                · simp only [Act.put, List.setIfInBounds_toArray, List.set_cons_zero, List.set_cons_succ, i64_w, i32_w]
                  rfl
                refine pure_ (i := 16) (N := some 63) (v := ?_) (a' := ?_) #[true, true, true, true, true, true, true, true, true, true, true, true, true, true, true, true, true, false, false, false, false, false, false, false] rfl rfl (any_of HT_.out (by kernel_rfl)) (fun _ _ _ h => h) (Or.inl ⟨by rfl, ?_⟩) ?_ ?_
                rotate_left
                · intro w'
                  go_simp
                  with_reducible rfl
                rotate_left
                · simp only [Act.put, List.setIfInBounds_toArray, List.set_cons_zero, List.set_cons_succ, i64_w, i32_w]
                  rfl
                refine pure_ (i := 17) (N := some 64) (v := ?_) (a' := ?_) #[true, true, true, true, true, true, true, true, true, true, true, true, true, true, true, true, true, true, false, false, false, false, false, false] rfl rfl (any_of HT_.out (by kernel_rfl)) (fun _ _ _ h => h) (Or.inl ⟨by rfl, ?_⟩) ?_ ?_
                rotate_left
                · intro w'
                  go_simp
                  with_reducible rfl
                rotate_left
                · simp only [Act.put, List.setIfInBounds_toArray, List.set_cons_zero, List.set_cons_succ, i64_w, i32_w]
                  rfl
                refine pure_ (i := 18) (N := some 65) (v := ?_) (a' := ?_) #[true, true, true, true, true, true, true, true, true, true, true, true, true, true, true, true, true, true, true, false, false, false, false, false] rfl rfl (any_of HT_.out (by kernel_rfl)) (fun _ _ _ h => h) (Or.inl ⟨by rfl, ?_⟩) ?_ ?_
                rotate_left
                · intro w'
                  go_simp
                  with_reducible rfl
                rotate_left
                · simp only [Act.put, List.setIfInBounds_toArray, List.set_cons_zero, List.set_cons_succ, i64_w, i32_w]
                  rfl
                refine pure_ (i := 19) (N := some 66) (v := ?_) (a' := ?_) #[true, true, true, true, true, true, true, true, true, true, true, true, true, true, true, true, true, true, true, true, false, false, false, false] rfl rfl (any_of HT_.out (by kernel_rfl)) (fun _ _ _ h => h) (Or.inl ⟨by rfl, ?_⟩) ?_ ?_
                rotate_left
                · intro w'
                  go_simp
                  with_reducible rfl
                rotate_left
                · simp only [Act.put, List.setIfInBounds_toArray, List.set_cons_zero, List.set_cons_succ, i64_w, i32_w]
                  rfl
                refine pure_ (i := 20) (N := some 67) (v := ?_) (a' := ?_) #[true, true, true, true, true, true, true, true, true, true, true, true, true, true, true, true, true, true, true, true, true, false, false, false] rfl rfl (any_of HT_.out (by kernel_rfl)) (fun _ _ _ h => h) (Or.inl ⟨by rfl, ?_⟩) ?_ ?_
                rotate_left
                · intro w'
                  go_simp
                  with_reducible rfl
                rotate_left
                · simp only [Act.put, List.setIfInBounds_toArray, List.set_cons_zero, List.set_cons_succ, i64_w, i32_w]
                  rfl
                refine pure_ (i := 21) (N := some 68) (v := undef) (a' := ?_) #[true, true, true, true, true, true, true, true, true, true, true, true, true, true, true, true, true, true, true, true, true, true, false, false] rfl rfl (any_of HT_.out (by kernel_rfl)) (fun _ _ _ h => h) (Or.inr ⟨by rfl, rfl⟩) ?_ ?_
                rotate_left
                · simp only [Act.put, List.setIfInBounds_toArray, List.set_cons_zero, List.set_cons_succ, i64_w, i32_w]
                  rfl
                refine pure_ (i := 22) (N := some 69) (v := undef) (a' := ?_) #[true, true, true, true, true, true, true, true, true, true, true, true, true, true, true, true, true, true, true, true, true, true, true, false] rfl rfl (any_of HT_.out (by kernel_rfl)) (fun _ _ _ h => h) (Or.inr ⟨by rfl, rfl⟩) ?_ ?_
                rotate_left
                · simp only [Act.put, List.setIfInBounds_toArray, List.set_cons_zero, List.set_cons_succ, i64_w, i32_w]
                  rfl
                refine pure_ (i := 23) (N := some 70) (v := ?_) (a' := ?_) #[true, true, true, true, true, true, true, true, true, true, true, true, true, true, true, true, true, true, true, true, true, true, true, true] rfl rfl (any_of HT_.out (by kernel_rfl)) (fun _ _ _ h => h) (Or.inl ⟨by rfl, ?_⟩) ?_ ?_
                rotate_left
                · intro w'
                  go_simp
                  with_reducible rfl
                rotate_left
                · simp only [Act.put, List.setIfInBounds_toArray, List.set_cons_zero, List.set_cons_succ, i64_w, i32_w]
                  rfl
                refine done_ (done_of HT_.out (by kernel_rfl)) ?_
                try go_wp2
                go_meet
                case rel => exact ⟨_, (true), (by first | rfl | (simp; done) | (simp [*]; done)), H', ⟨by first | omega | exact Nat.le_refl _⟩, ⟨by (with_reducible repeat (first | refine blk_drewN ?_ _ | refine blk_drew ?_ | refine blk_alloc ?_ _)); exact BK112.out⟩, ⟨by (with_reducible repeat (first | refine blk_drewN ?_ _ | refine blk_drew ?_ | refine blk_alloc ?_ _)); exact BK126.out⟩, ⟨by (with_reducible repeat (first | refine blk_drewN ?_ _ | refine blk_drew ?_ | refine blk_alloc ?_ _)); exact BK134.out⟩, ⟨by repeat (first | (with_reducible first | exact HB.out | apply below_alloc | apply pw_below_drewN | apply below_drew1 | refine below_set ?_ GE112.out | refine below_set ?_ GE126.out | refine below_set ?_ GE134.out) | exact HB.out)⟩⟩
            · rw [if_neg c46] at H
              have c46b0 : (t125 == t133) = false := beq_eq_false_iff_ne.mpr c46
              have c46b1 : (t125 != t133) = true := bne_iff_ne.mpr c46
              have H' := Aside0.mk H
              clear H
              try go_wp2
              have n0_ : Aside0 (((((w30.setCell ⟨gb134, 0, none⟩ (.int .i64 t129)).setCell ⟨gb134, 1, none⟩ (.int .i64 t130)).setCell ⟨gb134, 2, none⟩ (.int .i64 t131)).setCell ⟨gb134, 3, none⟩ (.string t132)).heap[gb112]? = some (.cells #[.int .i64 t113, .int .i64 t114, .int .i64 t115, .string t116] 23 (0, 0))) := ⟨by (with_reducible repeat (first | refine blk_drewN ?_ _ | refine blk_drew ?_ | refine blk_alloc ?_ _)); refine blk_far ?_ NB112_134.out _; (with_reducible repeat (first | refine blk_drewN ?_ _ | refine blk_drew ?_ | refine blk_alloc ?_ _)); refine blk_far ?_ NB112_134.out _; (with_reducible repeat (first | refine blk_drewN ?_ _ | refine blk_drew ?_ | refine blk_alloc ?_ _)); refine blk_far ?_ NB112_134.out _; (with_reducible repeat (first | refine blk_drewN ?_ _ | refine blk_drew ?_ | refine blk_alloc ?_ _)); refine blk_far ?_ NB112_134.out _; (with_reducible repeat (first | refine blk_drewN ?_ _ | refine blk_drew ?_ | refine blk_alloc ?_ _)); exact BK112.out⟩
              have n1_ : Aside0 (((((w30.setCell ⟨gb134, 0, none⟩ (.int .i64 t129)).setCell ⟨gb134, 1, none⟩ (.int .i64 t130)).setCell ⟨gb134, 2, none⟩ (.int .i64 t131)).setCell ⟨gb134, 3, none⟩ (.string t132)).heap[gb126]? = some (.cells #[.int .i64 t121, .int .i64 t122, .int .i64 t123, .string t124] 23 (0, 0))) := ⟨by (with_reducible repeat (first | refine blk_drewN ?_ _ | refine blk_drew ?_ | refine blk_alloc ?_ _)); refine blk_far ?_ NB126_134.out _; (with_reducible repeat (first | refine blk_drewN ?_ _ | refine blk_drew ?_ | refine blk_alloc ?_ _)); refine blk_far ?_ NB126_134.out _; (with_reducible repeat (first | refine blk_drewN ?_ _ | refine blk_drew ?_ | refine blk_alloc ?_ _)); refine blk_far ?_ NB126_134.out _; (with_reducible repeat (first | refine blk_drewN ?_ _ | refine blk_drew ?_ | refine blk_alloc ?_ _)); refine blk_far ?_ NB126_134.out _; (with_reducible repeat (first | refine blk_drewN ?_ _ | refine blk_drew ?_ | refine blk_alloc ?_ _)); exact BK126.out⟩
              have n2_ : Aside0 (((((w30.setCell ⟨gb134, 0, none⟩ (.int .i64 t129)).setCell ⟨gb134, 1, none⟩ (.int .i64 t130)).setCell ⟨gb134, 2, none⟩ (.int .i64 t131)).setCell ⟨gb134, 3, none⟩ (.string t132)).heap[gb134]? = some (.cells #[.int .i64 t129, .int .i64 t130, .int .i64 t131, .string t132] 23 (0, 0))) := ⟨by (with_reducible repeat (first | refine blk_drewN ?_ _ | refine blk_drew ?_ | refine blk_alloc ?_ _)); refine blk_put (cs := #[.int .i64 t129, .int .i64 t130, .int .i64 t131, .string (⟨#[]⟩ : ByteArray)]) ?_ 3 _ rfl; (with_reducible repeat (first | refine blk_drewN ?_ _ | refine blk_drew ?_ | refine blk_alloc ?_ _)); refine blk_put (cs := #[.int .i64 t129, .int .i64 t130, .int .i64 0, .string (⟨#[]⟩ : ByteArray)]) ?_ 2 _ rfl; (with_reducible repeat (first | refine blk_drewN ?_ _ | refine blk_drew ?_ | refine blk_alloc ?_ _)); refine blk_put (cs := #[.int .i64 t129, .int .i64 0, .int .i64 0, .string (⟨#[]⟩ : ByteArray)]) ?_ 1 _ rfl; (with_reducible repeat (first | refine blk_drewN ?_ _ | refine blk_drew ?_ | refine blk_alloc ?_ _)); refine blk_put (cs := #[.int .i64 0, .int .i64 0, .int .i64 0, .string (⟨#[]⟩ : ByteArray)]) ?_ 0 _ rfl; (with_reducible repeat (first | refine blk_drewN ?_ _ | refine blk_drew ?_ | refine blk_alloc ?_ _)); exact BK134.out⟩
              have n3_ : Aside0 (Below w.heap.size w ((((w30.setCell ⟨gb134, 0, none⟩ (.int .i64 t129)).setCell ⟨gb134, 1, none⟩ (.int .i64 t130)).setCell ⟨gb134, 2, none⟩ (.int .i64 t131)).setCell ⟨gb134, 3, none⟩ (.string t132))) := ⟨by repeat (first | (with_reducible first | exact HB.out | apply below_alloc | apply pw_below_drewN | apply below_drew1 | refine below_set ?_ GE112.out | refine below_set ?_ GE126.out | refine below_set ?_ GE134.out) | exact HB.out)⟩
              (try clear BK112)
              (try clear BK126)
              (try clear BK134)
              (try clear HB)
              generalize ((((w30.setCell ⟨gb134, 0, none⟩ (.int .i64 t129)).setCell ⟨gb134, 1, none⟩ (.int .i64 t130)).setCell ⟨gb134, 2, none⟩ (.int .i64 t131)).setCell ⟨gb134, 3, none⟩ (.string t132)) = w58 at n0_ n1_ n2_ n3_ ⊢
              have BK112 := n0_
              have BK126 := n1_
              have BK134 := n2_
              have HB := n3_
              clear n0_ n1_ n2_ n3_
              have n0_ := Aside0.mk (blk_drew BK112.out)
              have n1_ := Aside0.mk (blk_drew BK126.out)
              have n2_ := Aside0.mk (blk_drew BK134.out)
              have n3_ := Aside0.mk (below_drew1 HB.out)
              clear BK112
              clear BK126
              clear BK134
              clear HB
              have BK112 := n0_
              have BK126 := n1_
              have BK134 := n2_
              have HB := n3_
              clear n0_ n1_ n2_ n3_
              refine start_ (n := 24) (S := fun w' => w'.cell? ⟨gb112, 0, none⟩ = some (.int .i64 t113) ∧ w'.cell? ⟨gb112, 1, none⟩ = some (.int .i64 t114) ∧ w'.cell? ⟨gb112, 2, none⟩ = some (.int .i64 t115) ∧ w'.cell? ⟨gb112, 3, none⟩ = some (.string t116) ∧ w'.cell? ⟨gb126, 0, none⟩ = some (.int .i64 t121) ∧ w'.cell? ⟨gb126, 1, none⟩ = some (.int .i64 t122) ∧ w'.cell? ⟨gb126, 2, none⟩ = some (.int .i64 t123) ∧ w'.cell? ⟨gb126, 3, none⟩ = some (.string t124) ∧ w'.cell? ⟨gb134, 0, none⟩ = some (.int .i64 t129) ∧ w'.cell? ⟨gb134, 1, none⟩ = some (.int .i64 t130) ∧ w'.cell? ⟨gb134, 2, none⟩ = some (.int .i64 t131) ∧ w'.cell? ⟨gb134, 3, none⟩ = some (.string t132)) (ds := []) #[false, false, false, false, false, false, false, false, false, false, false, false, false, false, false, false, false, false, false, false, false, false, false, false] (by kernel_rfl) rfl rfl ⟨(blk_cell BK112.out 0).trans rfl, (blk_cell BK112.out 1).trans rfl, (blk_cell BK112.out 2).trans rfl, (blk_cell BK112.out 3).trans rfl, (blk_cell BK126.out 0).trans rfl, (blk_cell BK126.out 1).trans rfl, (blk_cell BK126.out 2).trans rfl, (blk_cell BK126.out 3).trans rfl, (blk_cell BK134.out 0).trans rfl, (blk_cell BK134.out 1).trans rfl, (blk_cell BK134.out 2).trans rfl, (blk_cell BK134.out 3).trans rfl⟩ (fun hHeld => ?_); refine with_tabW footwaylaw02_FrameTells.tab7 footwaylaw02_FrameTells.bits7 (fun HT_ HW_ => ?_)
              generalize w58.drew = w59 at BK112 BK126 BK134 HB hHeld ⊢
              refine take_ (i := 0) (N := some 47) (v := ?_) (a' := ?_) #[true, false, false, false, false, false, false, false, false, false, false, false, false, false, false, false, false, false, false, false, false, false, false, false] rfl rfl (take_ofW HT_.out HW_.out (by kernel_rfl)) (fun _ _ _ h => h) (Or.inl ⟨by rfl, ?_⟩) hHeld ?_ ?_
              rotate_left
              · rintro w' ⟨s0, s1, s2, s3, s4, s5, s6, s7, s8, s9, s10, s11⟩
                go_simp
                with_reducible rfl
              rotate_left
              · simp only [Act.put, List.setIfInBounds_toArray, List.set_cons_zero, List.set_cons_succ, i64_w, i32_w]
                rfl
              refine take_ (i := 2) (N := some 49) (v := ?_) (a' := ?_) #[true, false, true, false, false, false, false, false, false, false, false, false, false, false, false, false, false, false, false, false, false, false, false, false] rfl rfl (take_ofW HT_.out HW_.out (by kernel_rfl)) (fun _ _ _ h => h) (Or.inl ⟨by rfl, ?_⟩) hHeld ?_ ?_
              rotate_left
              · rintro w' ⟨s0, s1, s2, s3, s4, s5, s6, s7, s8, s9, s10, s11⟩
                go_simp
                with_reducible rfl
              rotate_left
              · simp only [Act.put, List.setIfInBounds_toArray, List.set_cons_zero, List.set_cons_succ, i64_w, i32_w]
                rfl
              refine one_ (i := 1) (N := some 48) #[true, true, true, false, false, false, false, false, false, false, false, false, false, false, false, false, false, false, false, false, false, false, false, false] rfl rfl (one_of HT_.out (by kernel_rfl)) (by decide) (fun K hK => ?_)
              refine goes_ Try.func18 (by kernel_rfl) rfl #[.agg #[.int .i64 t113, .int .i64 t114, .int .i64 t115, .string t116]] (by rfl) rfl rfl (by (try simp only [List.map_toArray, List.map_cons, List.map_nil]); first | done | rfl | (simp only [List.length_drop, List.length_take]; rfl)) ?_
              with_reducible refine (frame_Right.calls t113 t114 t115 t116 t135 _ A34.out).mono ?_
              rintro e w60 ⟨rfl, hb⟩
              refine ⟨_, rfl, ?_⟩
              have n0_ := Aside0.mk (blk_below (g := gb112) (o := .cells #[.int .i64 t113, .int .i64 t114, .int .i64 t115, .string t116] 23 (0, 0)) (by (with_reducible repeat (first | refine blk_drewN ?_ _ | refine blk_drew ?_ | refine blk_alloc ?_ _)); exact BK112.out) hb)
              have n1_ := Aside0.mk (blk_below (g := gb126) (o := .cells #[.int .i64 t121, .int .i64 t122, .int .i64 t123, .string t124] 23 (0, 0)) (by (with_reducible repeat (first | refine blk_drewN ?_ _ | refine blk_drew ?_ | refine blk_alloc ?_ _)); exact BK126.out) hb)
              have n2_ := Aside0.mk (blk_below (g := gb134) (o := .cells #[.int .i64 t129, .int .i64 t130, .int .i64 t131, .string t132] 23 (0, 0)) (by (with_reducible repeat (first | refine blk_drewN ?_ _ | refine blk_drew ?_ | refine blk_alloc ?_ _)); exact BK134.out) hb)
              have n3_ := Aside0.mk (below_step (by repeat (first | (with_reducible first | exact HB.out | apply below_alloc | apply pw_below_drewN | apply below_drew1 | refine below_set ?_ GE112.out | refine below_set ?_ GE126.out | refine below_set ?_ GE134.out) | exact HB.out)) hb)
              clear BK112
              clear BK126
              clear BK134
              clear HB
              have BK112 := n0_
              have BK126 := n1_
              have BK134 := n2_
              have HB := n3_
              clear n0_ n1_ n2_ n3_
              (try clear hb)
              (try clear hb2)
              (try clear hk)
              (try clear hi)
              refine hK.out _ _ ⟨(blk_cell BK112.out 0).trans rfl, (blk_cell BK112.out 1).trans rfl, (blk_cell BK112.out 2).trans rfl, (blk_cell BK112.out 3).trans rfl, (blk_cell BK126.out 0).trans rfl, (blk_cell BK126.out 1).trans rfl, (blk_cell BK126.out 2).trans rfl, (blk_cell BK126.out 3).trans rfl, (blk_cell BK134.out 0).trans rfl, (blk_cell BK134.out 1).trans rfl, (blk_cell BK134.out 2).trans rfl, (blk_cell BK134.out 3).trans rfl⟩ (fun hHeld => ?_)
              clear hK K
              refine norm_ (a' := ?_) ?_ ?_
              rotate_left
              · show Act.put _ (some 48) _ = _
                simp only [Act.put, List.setIfInBounds_toArray, List.set_cons_zero, List.set_cons_succ, i64_w, i32_w]
                rfl
              refine one_ (i := 3) (N := some 50) #[true, true, true, true, false, false, false, false, false, false, false, false, false, false, false, false, false, false, false, false, false, false, false, false] rfl rfl (one_of HT_.out (by kernel_rfl)) (by decide) (fun K hK => ?_)
              refine goes_ Try.func25 (by kernel_rfl) rfl #[.agg #[.int .i64 t113, .int .i64 t114, .int .i64 t115, .string t116]] (by rfl) rfl rfl (by (try simp only [List.map_toArray, List.map_cons, List.map_nil]); first | done | rfl | (simp only [List.length_drop, List.length_take]; rfl)) ?_
              with_reducible refine (footwayref02_Right.calls t113 t114 t115 t116 t136 _ A35.out).mono ?_
              rintro e w61 ⟨rfl, hb⟩
              refine ⟨_, rfl, ?_⟩
              have n0_ := Aside0.mk (blk_below (g := gb112) (o := .cells #[.int .i64 t113, .int .i64 t114, .int .i64 t115, .string t116] 23 (0, 0)) (by (with_reducible repeat (first | refine blk_drewN ?_ _ | refine blk_drew ?_ | refine blk_alloc ?_ _)); exact BK112.out) hb)
              have n1_ := Aside0.mk (blk_below (g := gb126) (o := .cells #[.int .i64 t121, .int .i64 t122, .int .i64 t123, .string t124] 23 (0, 0)) (by (with_reducible repeat (first | refine blk_drewN ?_ _ | refine blk_drew ?_ | refine blk_alloc ?_ _)); exact BK126.out) hb)
              have n2_ := Aside0.mk (blk_below (g := gb134) (o := .cells #[.int .i64 t129, .int .i64 t130, .int .i64 t131, .string t132] 23 (0, 0)) (by (with_reducible repeat (first | refine blk_drewN ?_ _ | refine blk_drew ?_ | refine blk_alloc ?_ _)); exact BK134.out) hb)
              have n3_ := Aside0.mk (below_step (by repeat (first | (with_reducible first | exact HB.out | apply below_alloc | apply pw_below_drewN | apply below_drew1 | refine below_set ?_ GE112.out | refine below_set ?_ GE126.out | refine below_set ?_ GE134.out) | exact HB.out)) hb)
              clear BK112
              clear BK126
              clear BK134
              clear HB
              have BK112 := n0_
              have BK126 := n1_
              have BK134 := n2_
              have HB := n3_
              clear n0_ n1_ n2_ n3_
              (try clear hb)
              (try clear hb2)
              (try clear hk)
              (try clear hi)
              refine hK.out _ _ ⟨(blk_cell BK112.out 0).trans rfl, (blk_cell BK112.out 1).trans rfl, (blk_cell BK112.out 2).trans rfl, (blk_cell BK112.out 3).trans rfl, (blk_cell BK126.out 0).trans rfl, (blk_cell BK126.out 1).trans rfl, (blk_cell BK126.out 2).trans rfl, (blk_cell BK126.out 3).trans rfl, (blk_cell BK134.out 0).trans rfl, (blk_cell BK134.out 1).trans rfl, (blk_cell BK134.out 2).trans rfl, (blk_cell BK134.out 3).trans rfl⟩ (fun hHeld => ?_)
              clear hK K
              refine norm_ (a' := ?_) ?_ ?_
              rotate_left
              · show Act.put _ (some 50) _ = _
                simp only [Act.put, List.setIfInBounds_toArray, List.set_cons_zero, List.set_cons_succ, i64_w, i32_w]
                rfl
              refine pure_ (i := 4) (N := some 51) (v := ?_) (a' := ?_) #[true, true, true, true, true, false, false, false, false, false, false, false, false, false, false, false, false, false, false, false, false, false, false, false] rfl rfl (any_of HT_.out (by kernel_rfl)) (fun _ _ _ h => h) (Or.inl ⟨by rfl, ?_⟩) ?_ ?_
              rotate_left
              · intro w'
                go_simp
                with_reducible rfl
              rotate_left
              · simp only [Act.put, List.setIfInBounds_toArray, List.set_cons_zero, List.set_cons_succ, i64_w, i32_w]
                rfl
              refine pure_ (i := 5) (N := some 52) (v := ?_) (a' := ?_) #[true, true, true, true, true, true, false, false, false, false, false, false, false, false, false, false, false, false, false, false, false, false, false, false] rfl rfl (any_of HT_.out (by kernel_rfl)) (fun _ _ _ h => h) (Or.inl ⟨by rfl, ?_⟩) ?_ ?_
              rotate_left
              · intro w'
                go_simp
                with_reducible rfl
              rotate_left
              · simp only [Act.put, List.setIfInBounds_toArray, List.set_cons_zero, List.set_cons_succ, i64_w, i32_w]
                rfl
              refine take_ (i := 6) (N := some 53) (v := ?_) (a' := ?_) #[true, true, true, true, true, true, true, false, false, false, false, false, false, false, false, false, false, false, false, false, false, false, false, false] rfl rfl (take_ofW HT_.out HW_.out (by kernel_rfl)) (fun _ _ _ h => h) (Or.inl ⟨by rfl, ?_⟩) hHeld ?_ ?_
              rotate_left
              · rintro w' ⟨s0, s1, s2, s3, s4, s5, s6, s7, s8, s9, s10, s11⟩
                go_simp
                with_reducible rfl
              rotate_left
              · simp only [Act.put, List.setIfInBounds_toArray, List.set_cons_zero, List.set_cons_succ, i64_w, i32_w]
                rfl
              refine take_ (i := 7) (N := some 54) (v := ?_) (a' := ?_) #[true, true, true, true, true, true, true, true, false, false, false, false, false, false, false, false, false, false, false, false, false, false, false, false] rfl rfl (take_ofW HT_.out HW_.out (by kernel_rfl)) (fun _ _ _ h => h) (Or.inl ⟨by rfl, ?_⟩) hHeld ?_ ?_
              rotate_left
              · rintro w' ⟨s0, s1, s2, s3, s4, s5, s6, s7, s8, s9, s10, s11⟩
                go_simp
                with_reducible rfl
              rotate_left
              · simp only [Act.put, List.setIfInBounds_toArray, List.set_cons_zero, List.set_cons_succ, i64_w, i32_w]
                rfl
              refine pure_ (i := 8) (N := some 55) (v := ?_) (a' := ?_) #[true, true, true, true, true, true, true, true, true, false, false, false, false, false, false, false, false, false, false, false, false, false, false, false] rfl rfl (any_of HT_.out (by kernel_rfl)) (fun _ _ _ h => h) (Or.inl ⟨by rfl, ?_⟩) ?_ ?_
              rotate_left
              · intro w'
                go_simp
                with_reducible rfl
              rotate_left
              · simp only [Act.put, List.setIfInBounds_toArray, List.set_cons_zero, List.set_cons_succ, i64_w, i32_w]
                rfl
              refine pure_ (i := 9) (N := some 56) (v := ?_) (a' := ?_) #[true, true, true, true, true, true, true, true, true, true, false, false, false, false, false, false, false, false, false, false, false, false, false, false] rfl rfl (any_of HT_.out (by kernel_rfl)) (fun _ _ _ h => h) (Or.inl ⟨by rfl, ?_⟩) ?_ ?_
              rotate_left
              · intro w'
                go_simp
                with_reducible rfl
              rotate_left
              · simp only [Act.put, List.setIfInBounds_toArray, List.set_cons_zero, List.set_cons_succ, i64_w, i32_w]
                rfl
              refine pure_ (i := 10) (N := some 57) (v := ?_) (a' := ?_) #[true, true, true, true, true, true, true, true, true, true, true, false, false, false, false, false, false, false, false, false, false, false, false, false] rfl rfl (any_of HT_.out (by kernel_rfl)) (fun _ _ _ h => h) (Or.inl ⟨by rfl, ?_⟩) ?_ ?_
              rotate_left
              · intro w'
                go_simp
                with_reducible rfl
              rotate_left
              · simp only [Act.put, List.setIfInBounds_toArray, List.set_cons_zero, List.set_cons_succ, i64_w, i32_w]
                rfl
              refine pure_ (i := 11) (N := some 58) (v := ?_) (a' := ?_) #[true, true, true, true, true, true, true, true, true, true, true, true, false, false, false, false, false, false, false, false, false, false, false, false] rfl rfl (any_of HT_.out (by kernel_rfl)) (fun _ _ _ h => h) (Or.inl ⟨by rfl, ?_⟩) ?_ ?_
              rotate_left
              · intro w'
                go_simp
                with_reducible rfl
              rotate_left
              · simp only [Act.put, List.setIfInBounds_toArray, List.set_cons_zero, List.set_cons_succ, i64_w, i32_w]
                rfl
              refine pure_ (i := 12) (N := some 59) (v := ?_) (a' := ?_) #[true, true, true, true, true, true, true, true, true, true, true, true, true, false, false, false, false, false, false, false, false, false, false, false] rfl rfl (any_of HT_.out (by kernel_rfl)) (fun _ _ _ h => h) (Or.inl ⟨by rfl, ?_⟩) ?_ ?_
              rotate_left
              · intro w'
                go_simp
                with_reducible rfl
              rotate_left
              · simp only [Act.put, List.setIfInBounds_toArray, List.set_cons_zero, List.set_cons_succ, i64_w, i32_w]
                rfl
              refine pure_ (i := 13) (N := some 60) (v := ?_) (a' := ?_) #[true, true, true, true, true, true, true, true, true, true, true, true, true, true, false, false, false, false, false, false, false, false, false, false] rfl rfl (any_of HT_.out (by kernel_rfl)) (fun _ _ _ h => h) (Or.inl ⟨by rfl, ?_⟩) ?_ ?_
              rotate_left
              · intro w'
                go_simp
                with_reducible rfl
              rotate_left
              · simp only [Act.put, List.setIfInBounds_toArray, List.set_cons_zero, List.set_cons_succ, i64_w, i32_w]
                rfl
              refine pure_ (i := 14) (N := some 61) (v := ?_) (a' := ?_) #[true, true, true, true, true, true, true, true, true, true, true, true, true, true, true, false, false, false, false, false, false, false, false, false] rfl rfl (any_of HT_.out (by kernel_rfl)) (fun _ _ _ h => h) (Or.inl ⟨by rfl, ?_⟩) ?_ ?_
              rotate_left
              · intro w'
                go_simp
                with_reducible rfl
              rotate_left
              · simp only [Act.put, List.setIfInBounds_toArray, List.set_cons_zero, List.set_cons_succ, i64_w, i32_w]
                rfl
              refine pure_ (i := 15) (N := some 62) (v := ?_) (a' := ?_) #[true, true, true, true, true, true, true, true, true, true, true, true, true, true, true, true, false, false, false, false, false, false, false, false] rfl rfl (any_of HT_.out (by kernel_rfl)) (fun _ _ _ h => h) (Or.inl ⟨by rfl, ?_⟩) ?_ ?_
              rotate_left
              · intro w'
                go_simp
                with_reducible rfl
              rotate_left
              · simp only [Act.put, List.setIfInBounds_toArray, List.set_cons_zero, List.set_cons_succ, i64_w, i32_w]
                rfl
              refine pure_ (i := 16) (N := some 63) (v := undef) (a' := ?_) #[true, true, true, true, true, true, true, true, true, true, true, true, true, true, true, true, true, false, false, false, false, false, false, false] rfl rfl (any_of HT_.out (by kernel_rfl)) (fun _ _ _ h => h) (Or.inr ⟨by rfl, rfl⟩) ?_ ?_
              rotate_left
              · simp only [Act.put, List.setIfInBounds_toArray, List.set_cons_zero, List.set_cons_succ, i64_w, i32_w]
                rfl
              refine pure_ (i := 17) (N := some 64) (v := undef) (a' := ?_) #[true, true, true, true, true, true, true, true, true, true, true, true, true, true, true, true, true, true, false, false, false, false, false, false] rfl rfl (any_of HT_.out (by kernel_rfl)) (fun _ _ _ h => h) (Or.inr ⟨by rfl, rfl⟩) ?_ ?_
              rotate_left
              · simp only [Act.put, List.setIfInBounds_toArray, List.set_cons_zero, List.set_cons_succ, i64_w, i32_w]
                rfl
              refine pure_ (i := 18) (N := some 65) (v := undef) (a' := ?_) #[true, true, true, true, true, true, true, true, true, true, true, true, true, true, true, true, true, true, true, false, false, false, false, false] rfl rfl (any_of HT_.out (by kernel_rfl)) (fun _ _ _ h => h) (Or.inr ⟨by rfl, rfl⟩) ?_ ?_
              rotate_left
              · simp only [Act.put, List.setIfInBounds_toArray, List.set_cons_zero, List.set_cons_succ, i64_w, i32_w]
                rfl
              refine pure_ (i := 19) (N := some 66) (v := ?_) (a' := ?_) #[true, true, true, true, true, true, true, true, true, true, true, true, true, true, true, true, true, true, true, true, false, false, false, false] rfl rfl (any_of HT_.out (by kernel_rfl)) (fun _ _ _ h => h) (Or.inl ⟨by rfl, ?_⟩) ?_ ?_
              rotate_left
              · intro w'
                go_simp
                with_reducible rfl
              rotate_left
              · simp only [Act.put, List.setIfInBounds_toArray, List.set_cons_zero, List.set_cons_succ, i64_w, i32_w]
                rfl
              refine pure_ (i := 20) (N := some 67) (v := ?_) (a' := ?_) #[true, true, true, true, true, true, true, true, true, true, true, true, true, true, true, true, true, true, true, true, true, false, false, false] rfl rfl (any_of HT_.out (by kernel_rfl)) (fun _ _ _ h => h) (Or.inl ⟨by rfl, ?_⟩) ?_ ?_
              rotate_left
              · intro w'
                go_simp
                with_reducible rfl
              rotate_left
              · simp only [Act.put, List.setIfInBounds_toArray, List.set_cons_zero, List.set_cons_succ, i64_w, i32_w]
                rfl
              refine pure_ (i := 21) (N := some 68) (v := undef) (a' := ?_) #[true, true, true, true, true, true, true, true, true, true, true, true, true, true, true, true, true, true, true, true, true, true, false, false] rfl rfl (any_of HT_.out (by kernel_rfl)) (fun _ _ _ h => h) (Or.inr ⟨by rfl, rfl⟩) ?_ ?_
              rotate_left
              · simp only [Act.put, List.setIfInBounds_toArray, List.set_cons_zero, List.set_cons_succ, i64_w, i32_w]
                rfl
              refine pure_ (i := 22) (N := some 69) (v := undef) (a' := ?_) #[true, true, true, true, true, true, true, true, true, true, true, true, true, true, true, true, true, true, true, true, true, true, true, false] rfl rfl (any_of HT_.out (by kernel_rfl)) (fun _ _ _ h => h) (Or.inr ⟨by rfl, rfl⟩) ?_ ?_
              rotate_left
              · simp only [Act.put, List.setIfInBounds_toArray, List.set_cons_zero, List.set_cons_succ, i64_w, i32_w]
                rfl
              refine pure_ (i := 23) (N := some 70) (v := ?_) (a' := ?_) #[true, true, true, true, true, true, true, true, true, true, true, true, true, true, true, true, true, true, true, true, true, true, true, true] rfl rfl (any_of HT_.out (by kernel_rfl)) (fun _ _ _ h => h) (Or.inl ⟨by rfl, ?_⟩) ?_ ?_
              rotate_left
              · intro w'
                go_simp
                with_reducible rfl
              rotate_left
              · simp only [Act.put, List.setIfInBounds_toArray, List.set_cons_zero, List.set_cons_succ, i64_w, i32_w]
                rfl
              refine done_ (done_of HT_.out (by kernel_rfl)) ?_
              try go_wp2
              go_meet
              case rel => exact ⟨_, (true), (by first | rfl | (simp; done) | (simp [*]; done)), H', ⟨by first | omega | exact Nat.le_refl _⟩, ⟨by (with_reducible repeat (first | refine blk_drewN ?_ _ | refine blk_drew ?_ | refine blk_alloc ?_ _)); exact BK112.out⟩, ⟨by (with_reducible repeat (first | refine blk_drewN ?_ _ | refine blk_drew ?_ | refine blk_alloc ?_ _)); exact BK126.out⟩, ⟨by (with_reducible repeat (first | refine blk_drewN ?_ _ | refine blk_drew ?_ | refine blk_alloc ?_ _)); exact BK134.out⟩, ⟨by repeat (first | (with_reducible first | exact HB.out | apply below_alloc | apply pw_below_drewN | apply below_drew1 | refine below_set ?_ GE112.out | refine below_set ?_ GE126.out | refine below_set ?_ GE134.out) | exact HB.out)⟩⟩
      case rest =>
        clear HC12
        try clear c1
        try clear c2
        try clear p2
        try clear c4
        try clear c18
        try clear c19
        try clear c25
        try clear c46
        try clear c46b0
        try clear c46b1
        try clear c47
        try clear c47b0
        try clear c47b1
        obtain ⟨kq, x70_11, rfl, HA, HJ11, BK112, BK126, BK134, HB⟩ := hcut
        cases kq with
        | zero => exact absurd HA.out (by simp [footwaylaw02_FrameTells.j0])
        | succ kj11 =>
          have H := HA.out
          clear HA
          simp only [footwaylaw02_FrameTells.j0] at H
          by_cases c62 : x70_11 = true
          · subst c62
            have H1 : (some false) = some r := by rw [if_pos rfl] at H; exact H
            clear H
            have H := H1
            clear H1
            obtain rfl := Option.some.inj H
            go_wp2
            go_ret
            exact ⟨by first | rfl | (simp [errW_none, errW_some] <;> rfl) | (simp only [← hji4]; first | rfl | (simp [errW_none, errW_some] <;> rfl)) | (simp [*, errW_none, errW_some] <;> rfl), by repeat (first | (with_reducible first | exact HB.out | apply below_alloc | apply pw_below_drewN | apply below_drew1 | refine below_set ?_ GE112.out | refine below_set ?_ GE126.out | refine below_set ?_ GE134.out) | exact HB.out)⟩
          · replace c62 := Bool.eq_false_iff.mpr c62
            subst c62
            have H1 : (if t133 = 0 then ((footwayref01_Class.f t129).bind fun t138 => (footwaylaw02_FrameTells.j1 kj11 t117 t118 t119 t120 (t127 != t138) t113 t114 t115 t116)) else (if t127 = 0 then (footwaylaw02_FrameTells.j1 kj11 t117 t118 t119 t120 false t113 t114 t115 t116) else (footwaylaw02_FrameTells.j1 kj11 t117 t118 t119 t120 true t113 t114 t115 t116))) = some r := by rw [if_neg (show ¬ (false = true) by decide)] at H; exact H
            clear H
            have H := H1
            clear H1
            have HC63 := Aside0.mk H
            clear H
            go_upto_region 9 with (fail)
            go_cut [87] (fun v87 wc => ∃ (kq : Nat) (x87_62 : Bool), v87 = .bool x87_62 ∧ Aside0 (footwaylaw02_FrameTells.j1 kq t117 t118 t119 t120 x87_62 t113 t114 t115 t116 = some r) ∧ Aside0 (kq ≤ kj11) ∧ Aside0 (wc.heap[gb112]? = some (.cells #[.int .i64 t113, .int .i64 t114, .int .i64 t115, .string t116] 23 (0, 0))) ∧ Aside0 (wc.heap[gb126]? = some (.cells #[.int .i64 t121, .int .i64 t122, .int .i64 t123, .string t124] 23 (0, 0))) ∧ Aside0 (wc.heap[gb134]? = some (.cells #[.int .i64 t129, .int .i64 t130, .int .i64 t131, .string t132] 23 (0, 0))) ∧ Aside0 (Below w.heap.size w wc))
            case first =>
              have H := HC63.out
              clear HC63
              by_cases c64 : t133 = 0
              · rw [if_pos c64] at H
                have c64b0 : (t133 == 0) = true := beq_iff_eq.mpr c64
                have c64b1 : (t133 != 0) = false := bne_eq_false_iff_eq.mpr c64
                clear c64
                (first | rw [c64b0] | (simp only [i64_w, i32_w]; rw [c64b0]) | skip)
                replace H := Option.bind_eq_some_iff.mp H
                obtain ⟨t138, A650, H⟩ := H
                replace H : (footwaylaw02_FrameTells.j1 kj11 t117 t118 t119 t120 (t127 != t138) t113 t114 t115 t116) = some r := H
                have A65 := Aside0.mk A650
                clear A650
                have H' := Aside0.mk H
                clear H
                have hnb66 := NB134_112.out
                have hnc66 := NB112_134.out
                have hnb67 := NB134_126.out
                have hnc67 := NB126_134.out
                have hcz68_0 : wc.cell? ⟨gb134, 0, none⟩ = some (.int .i64 t129) := (blk_cell BK134.out 0).trans rfl
                have hcz68_1 : wc.cell? ⟨gb134, 1, none⟩ = some (.int .i64 t130) := (blk_cell BK134.out 1).trans rfl
                have hcz68_2 : wc.cell? ⟨gb134, 2, none⟩ = some (.int .i64 t131) := (blk_cell BK134.out 2).trans rfl
                have hcz68_3 : wc.cell? ⟨gb134, 3, none⟩ = some (.string t132) := (blk_cell BK134.out 3).trans rfl
                have hfz68_0 := blk_frozen BK134.out 0
                have hfz68_1 := blk_frozen BK134.out 1
                have hfz68_2 := blk_frozen BK134.out 2
                have hfz68_3 := blk_frozen BK134.out 3
                go_wp2_with (first | (go_at_call 26; (with_reducible refine (footwayref01_Class.calls t129 t138 _ A65.out).mono ?_); rintro e w' ⟨rfl, ⟨nd, rfl⟩⟩))
                go_meet
                case rel => exact ⟨_, ((t127 != t138)), (by first | rfl | (simp; done) | (simp [*]; done)), H', ⟨by have := HJ11.out; first | omega | exact Nat.le_refl _⟩, ⟨by (with_reducible repeat (first | refine blk_drewN ?_ _ | refine blk_drew ?_ | refine blk_alloc ?_ _)); exact BK112.out⟩, ⟨by (with_reducible repeat (first | refine blk_drewN ?_ _ | refine blk_drew ?_ | refine blk_alloc ?_ _)); exact BK126.out⟩, ⟨by (with_reducible repeat (first | refine blk_drewN ?_ _ | refine blk_drew ?_ | refine blk_alloc ?_ _)); exact BK134.out⟩, ⟨by repeat (first | (with_reducible first | exact HB.out | apply below_alloc | apply pw_below_drewN | apply below_drew1 | refine below_set ?_ GE112.out | refine below_set ?_ GE126.out | refine below_set ?_ GE134.out) | exact HB.out)⟩⟩
              · rw [if_neg c64] at H
                have c64b0 : (t133 == 0) = false := beq_eq_false_iff_ne.mpr c64
                have c64b1 : (t133 != 0) = true := bne_iff_ne.mpr c64
                (first | rw [c64b0] | (simp only [i64_w, i32_w]; rw [c64b0]) | skip)
                by_cases c69 : t127 = 0
                · rw [if_pos c69] at H
                  have c69b0 : (t127 == 0) = true := beq_iff_eq.mpr c69
                  have c69b1 : (t127 != 0) = false := bne_eq_false_iff_eq.mpr c69
                  clear c69
                  have H' := Aside0.mk H
                  clear H
                  go_wp2
                  go_meet
                  case rel => exact ⟨_, (false), (by first | rfl | (simp; done) | (simp [*]; done)), H', ⟨by have := HJ11.out; first | omega | exact Nat.le_refl _⟩, ⟨by (with_reducible repeat (first | refine blk_drewN ?_ _ | refine blk_drew ?_ | refine blk_alloc ?_ _)); exact BK112.out⟩, ⟨by (with_reducible repeat (first | refine blk_drewN ?_ _ | refine blk_drew ?_ | refine blk_alloc ?_ _)); exact BK126.out⟩, ⟨by (with_reducible repeat (first | refine blk_drewN ?_ _ | refine blk_drew ?_ | refine blk_alloc ?_ _)); exact BK134.out⟩, ⟨by repeat (first | (with_reducible first | exact HB.out | apply below_alloc | apply pw_below_drewN | apply below_drew1 | refine below_set ?_ GE112.out | refine below_set ?_ GE126.out | refine below_set ?_ GE134.out) | exact HB.out)⟩⟩
                · rw [if_neg c69] at H
                  have c69b0 : (t127 == 0) = false := beq_eq_false_iff_ne.mpr c69
                  have c69b1 : (t127 != 0) = true := bne_iff_ne.mpr c69
                  have H' := Aside0.mk H
                  clear H
                  go_wp2
                  go_meet
                  case rel => exact ⟨_, (true), (by first | rfl | (simp; done) | (simp [*]; done)), H', ⟨by have := HJ11.out; first | omega | exact Nat.le_refl _⟩, ⟨by (with_reducible repeat (first | refine blk_drewN ?_ _ | refine blk_drew ?_ | refine blk_alloc ?_ _)); exact BK112.out⟩, ⟨by (with_reducible repeat (first | refine blk_drewN ?_ _ | refine blk_drew ?_ | refine blk_alloc ?_ _)); exact BK126.out⟩, ⟨by (with_reducible repeat (first | refine blk_drewN ?_ _ | refine blk_drew ?_ | refine blk_alloc ?_ _)); exact BK134.out⟩, ⟨by repeat (first | (with_reducible first | exact HB.out | apply below_alloc | apply pw_below_drewN | apply below_drew1 | refine below_set ?_ GE112.out | refine below_set ?_ GE126.out | refine below_set ?_ GE134.out) | exact HB.out)⟩⟩
            case rest =>
              clear HC63
              try clear c1
              try clear c2
              try clear p2
              try clear c4
              try clear c6
              try clear c18
              try clear c19
              try clear c25
              try clear c46
              try clear c46b0
              try clear c46b1
              try clear c47
              try clear c47b0
              try clear c47b1
              try clear c62
              try clear c64
              try clear c64b0
              try clear c64b1
              try clear c66
              try clear c67
              try clear c69
              try clear c69b0
              try clear c69b1
              try clear hcz68_0
              try clear hcz68_1
              try clear hcz68_2
              try clear hcz68_3
              try clear hfz68_0
              try clear hfz68_1
              try clear hfz68_2
              try clear hfz68_3
              try clear p2
              obtain ⟨kq, x87_62, rfl, HA, HJ62, BK112, BK126, BK134, HB⟩ := hcut
              cases kq with
              | zero => exact absurd HA.out (by simp [footwaylaw02_FrameTells.j1])
              | succ kj62 =>
                have H := HA.out
                clear HA
                simp only [footwaylaw02_FrameTells.j1] at H
                by_cases c70 : x87_62 = true
                · subst c70
                  have H1 : (some false) = some r := by rw [if_pos rfl] at H; exact H
                  clear H
                  have H := H1
                  clear H1
                  obtain rfl := Option.some.inj H
                  go_wp2
                  go_ret
                  exact ⟨by first | rfl | (simp [errW_none, errW_some] <;> rfl) | (simp only [← hji4]; first | rfl | (simp [errW_none, errW_some] <;> rfl)) | (simp [*, errW_none, errW_some] <;> rfl), by repeat (first | (with_reducible first | exact HB.out | apply below_alloc | apply pw_below_drewN | apply below_drew1 | refine below_set ?_ GE112.out | refine below_set ?_ GE126.out | refine below_set ?_ GE134.out) | exact HB.out)⟩
                · replace c70 := Bool.eq_false_iff.mpr c70
                  subst c70
                  have H1 : ((footwayref02_Right.f t113 t114 t115 t116).bind fun t139 => (if t139 = true then (if t118 = 0 then (if t120 = 0 then ((footwayref02_Print.f kj62 t113 t114 t115 t116).bind fun t140 => (if t117.toList = t140.toList then (some (t119 == (t117.size : Int))) else (some false))) else (some false)) else (some false)) else (if t118 = 1 then (if t120 = 1 then (if t117.toList = ([] : List UInt8) then (some (t119 == 0)) else (some false)) else (some false)) else (some false)))) = some r := by rw [if_neg (show ¬ (false = true) by decide)] at H; exact H
                  clear H
                  have H := H1
                  clear H1
                  replace H := Option.bind_eq_some_iff.mp H
                  obtain ⟨t139, A710, H⟩ := H
                  replace H : (if t139 = true then (if t118 = 0 then (if t120 = 0 then ((footwayref02_Print.f kj62 t113 t114 t115 t116).bind fun t140 => (if t117.toList = t140.toList then (some (t119 == (t117.size : Int))) else (some false))) else (some false)) else (some false)) else (if t118 = 1 then (if t120 = 1 then (if t117.toList = ([] : List UInt8) then (some (t119 == 0)) else (some false)) else (some false)) else (some false))) = some r := H
                  have A71 := Aside0.mk A710
                  clear A710
                  by_cases c72 : t139 = true
                  · subst c72
                    have H1 : (if t118 = 0 then (if t120 = 0 then ((footwayref02_Print.f kj62 t113 t114 t115 t116).bind fun t140 => (if t117.toList = t140.toList then (some (t119 == (t117.size : Int))) else (some false))) else (some false)) else (some false)) = some r := by rw [if_pos rfl] at H; exact H
                    clear H
                    have H := H1
                    clear H1
                    by_cases c73 : t118 = 0
                    · rw [if_pos c73] at H
                      have c73b0 : (t118 == 0) = true := beq_iff_eq.mpr c73
                      have c73b1 : (t118 != 0) = false := bne_eq_false_iff_eq.mpr c73
                      clear c73
                      by_cases c74 : t120 = 0
                      · rw [if_pos c74] at H
                        have c74b0 : (t120 == 0) = true := beq_iff_eq.mpr c74
                        have c74b1 : (t120 != 0) = false := bne_eq_false_iff_eq.mpr c74
                        clear c74
                        replace H := Option.bind_eq_some_iff.mp H
                        obtain ⟨t140, A750, H⟩ := H
                        replace H : (if t117.toList = t140.toList then (some (t119 == (t117.size : Int))) else (some false)) = some r := H
                        have A75 := Aside0.mk A750
                        clear A750
                        by_cases c76 : t117.toList = t140.toList
                        · rw [if_pos c76] at H
                          have c76b0 : (t117.toList == t140.toList) = true := beq_iff_eq.mpr c76
                          have c76b1 : (t117.toList != t140.toList) = false := bne_eq_false_iff_eq.mpr c76
                          clear c76
                          obtain rfl := Option.some.inj H
                          have hnb77 := NB112_126.out
                          have hnc77 := NB126_112.out
                          have hnb78 := NB112_134.out
                          have hnc78 := NB134_112.out
                          have hcz79_0 : wc.cell? ⟨gb112, 0, none⟩ = some (.int .i64 t113) := (blk_cell BK112.out 0).trans rfl
                          have hcz79_1 : wc.cell? ⟨gb112, 1, none⟩ = some (.int .i64 t114) := (blk_cell BK112.out 1).trans rfl
                          have hcz79_2 : wc.cell? ⟨gb112, 2, none⟩ = some (.int .i64 t115) := (blk_cell BK112.out 2).trans rfl
                          have hcz79_3 : wc.cell? ⟨gb112, 3, none⟩ = some (.string t116) := (blk_cell BK112.out 3).trans rfl
                          have hfz79_0 := blk_frozen BK112.out 0
                          have hfz79_1 := blk_frozen BK112.out 1
                          have hfz79_2 := blk_frozen BK112.out 2
                          have hfz79_3 := blk_frozen BK112.out 3
                          go_wp2_with (first | ((with_reducible refine gate_callee (f := 25) rfl ?_); refine goesL_ (some 89) rfl rfl Try.func25 (by kernel_rfl) rfl #[.agg #[.int .i64 t113, .int .i64 t114, .int .i64 t115, .string t116]] rfl (by (try simp only [List.map_toArray, List.map_cons, List.map_nil]); first | done | rfl | (simp only [List.length_drop, List.length_take]; rfl)) ?_; (with_reducible refine (footwayref02_Right.calls t113 t114 t115 t116 true _ A71.out).mono ?_); rintro e w80 ⟨rfl, hb⟩; refine ⟨_, rfl, ?_⟩; have n0_ := Aside0.mk (blk_below (g := gb112) (o := .cells #[.int .i64 t113, .int .i64 t114, .int .i64 t115, .string t116] 23 (0, 0)) (by (with_reducible repeat (first | refine blk_drewN ?_ _ | refine blk_drew ?_ | refine blk_alloc ?_ _)); exact BK112.out) hb); have n1_ := Aside0.mk (blk_below (g := gb126) (o := .cells #[.int .i64 t121, .int .i64 t122, .int .i64 t123, .string t124] 23 (0, 0)) (by (with_reducible repeat (first | refine blk_drewN ?_ _ | refine blk_drew ?_ | refine blk_alloc ?_ _)); exact BK126.out) hb); have n2_ := Aside0.mk (blk_below (g := gb134) (o := .cells #[.int .i64 t129, .int .i64 t130, .int .i64 t131, .string t132] 23 (0, 0)) (by (with_reducible repeat (first | refine blk_drewN ?_ _ | refine blk_drew ?_ | refine blk_alloc ?_ _)); exact BK134.out) hb); have n3_ := Aside0.mk (below_step (by repeat (first | (with_reducible first | exact HB.out | apply below_alloc | apply pw_below_drewN | apply below_drew1 | refine below_set ?_ GE112.out | refine below_set ?_ GE126.out | refine below_set ?_ GE134.out) | exact HB.out)) hb); clear BK112; clear BK126; clear BK134; clear HB; have BK112 := n0_; have BK126 := n1_; have BK134 := n2_; have HB := n3_; clear n0_ n1_ n2_ n3_; (try clear hb); (try clear hb2); (try clear hk); (try clear hi); have hcz81_0 : w80.cell? ⟨gb112, 0, none⟩ = some (.int .i64 t113) := (blk_cell BK112.out 0).trans rfl; have hcz81_1 : w80.cell? ⟨gb112, 1, none⟩ = some (.int .i64 t114) := (blk_cell BK112.out 1).trans rfl; have hcz81_2 : w80.cell? ⟨gb112, 2, none⟩ = some (.int .i64 t115) := (blk_cell BK112.out 2).trans rfl; have hcz81_3 : w80.cell? ⟨gb112, 3, none⟩ = some (.string t116) := (blk_cell BK112.out 3).trans rfl; have hfz81_0 := blk_frozen BK112.out 0; have hfz81_1 := blk_frozen BK112.out 1; have hfz81_2 := blk_frozen BK112.out 2; have hfz81_3 := blk_frozen BK112.out 3) | (go_at_call 27; (with_reducible refine (footwayref02_Print.calls kj62 t113 t114 t115 t116 t140 _ A75.out).mono ?_); rintro e w82 ⟨rfl, hb⟩; have n0_ := Aside0.mk (blk_below (g := gb112) (o := .cells #[.int .i64 t113, .int .i64 t114, .int .i64 t115, .string t116] 23 (0, 0)) (by (with_reducible repeat (first | refine blk_drewN ?_ _ | refine blk_drew ?_ | refine blk_alloc ?_ _)); exact BK112.out) hb); have n1_ := Aside0.mk (blk_below (g := gb126) (o := .cells #[.int .i64 t121, .int .i64 t122, .int .i64 t123, .string t124] 23 (0, 0)) (by (with_reducible repeat (first | refine blk_drewN ?_ _ | refine blk_drew ?_ | refine blk_alloc ?_ _)); exact BK126.out) hb); have n2_ := Aside0.mk (blk_below (g := gb134) (o := .cells #[.int .i64 t129, .int .i64 t130, .int .i64 t131, .string t132] 23 (0, 0)) (by (with_reducible repeat (first | refine blk_drewN ?_ _ | refine blk_drew ?_ | refine blk_alloc ?_ _)); exact BK134.out) hb); have n3_ := Aside0.mk (below_step (by repeat (first | (with_reducible first | exact HB.out | apply below_alloc | apply pw_below_drewN | apply below_drew1 | refine below_set ?_ GE112.out | refine below_set ?_ GE126.out | refine below_set ?_ GE134.out) | exact HB.out)) hb); clear BK112; clear BK126; clear BK134; clear HB; have BK112 := n0_; have BK126 := n1_; have BK134 := n2_; have HB := n3_; clear n0_ n1_ n2_ n3_; (try clear hb); (try clear hb2); (try clear hk); (try clear hi)))
                          go_ret
                          exact ⟨by first | rfl | (simp [errW_none, errW_some] <;> rfl) | (simp only [← hji4]; first | rfl | (simp [errW_none, errW_some] <;> rfl)) | (simp [*, errW_none, errW_some] <;> rfl), by repeat (first | (with_reducible first | exact HB.out | apply below_alloc | apply pw_below_drewN | apply below_drew1 | refine below_set ?_ GE112.out | refine below_set ?_ GE126.out | refine below_set ?_ GE134.out) | exact HB.out)⟩
                        · rw [if_neg c76] at H
                          have c76b0 : (t117.toList == t140.toList) = false := beq_eq_false_iff_ne.mpr c76
                          have c76b1 : (t117.toList != t140.toList) = true := bne_iff_ne.mpr c76
                          obtain rfl := Option.some.inj H
                          have hnb83 := NB112_126.out
                          have hnc83 := NB126_112.out
                          have hnb84 := NB112_134.out
                          have hnc84 := NB134_112.out
                          have hcz85_0 : wc.cell? ⟨gb112, 0, none⟩ = some (.int .i64 t113) := (blk_cell BK112.out 0).trans rfl
                          have hcz85_1 : wc.cell? ⟨gb112, 1, none⟩ = some (.int .i64 t114) := (blk_cell BK112.out 1).trans rfl
                          have hcz85_2 : wc.cell? ⟨gb112, 2, none⟩ = some (.int .i64 t115) := (blk_cell BK112.out 2).trans rfl
                          have hcz85_3 : wc.cell? ⟨gb112, 3, none⟩ = some (.string t116) := (blk_cell BK112.out 3).trans rfl
                          have hfz85_0 := blk_frozen BK112.out 0
                          have hfz85_1 := blk_frozen BK112.out 1
                          have hfz85_2 := blk_frozen BK112.out 2
                          have hfz85_3 := blk_frozen BK112.out 3
                          go_wp2_with (first | ((with_reducible refine gate_callee (f := 25) rfl ?_); refine goesL_ (some 89) rfl rfl Try.func25 (by kernel_rfl) rfl #[.agg #[.int .i64 t113, .int .i64 t114, .int .i64 t115, .string t116]] rfl (by (try simp only [List.map_toArray, List.map_cons, List.map_nil]); first | done | rfl | (simp only [List.length_drop, List.length_take]; rfl)) ?_; (with_reducible refine (footwayref02_Right.calls t113 t114 t115 t116 true _ A71.out).mono ?_); rintro e w86 ⟨rfl, hb⟩; refine ⟨_, rfl, ?_⟩; have n0_ := Aside0.mk (blk_below (g := gb112) (o := .cells #[.int .i64 t113, .int .i64 t114, .int .i64 t115, .string t116] 23 (0, 0)) (by (with_reducible repeat (first | refine blk_drewN ?_ _ | refine blk_drew ?_ | refine blk_alloc ?_ _)); exact BK112.out) hb); have n1_ := Aside0.mk (blk_below (g := gb126) (o := .cells #[.int .i64 t121, .int .i64 t122, .int .i64 t123, .string t124] 23 (0, 0)) (by (with_reducible repeat (first | refine blk_drewN ?_ _ | refine blk_drew ?_ | refine blk_alloc ?_ _)); exact BK126.out) hb); have n2_ := Aside0.mk (blk_below (g := gb134) (o := .cells #[.int .i64 t129, .int .i64 t130, .int .i64 t131, .string t132] 23 (0, 0)) (by (with_reducible repeat (first | refine blk_drewN ?_ _ | refine blk_drew ?_ | refine blk_alloc ?_ _)); exact BK134.out) hb); have n3_ := Aside0.mk (below_step (by repeat (first | (with_reducible first | exact HB.out | apply below_alloc | apply pw_below_drewN | apply below_drew1 | refine below_set ?_ GE112.out | refine below_set ?_ GE126.out | refine below_set ?_ GE134.out) | exact HB.out)) hb); clear BK112; clear BK126; clear BK134; clear HB; have BK112 := n0_; have BK126 := n1_; have BK134 := n2_; have HB := n3_; clear n0_ n1_ n2_ n3_; (try clear hb); (try clear hb2); (try clear hk); (try clear hi); have hcz87_0 : w86.cell? ⟨gb112, 0, none⟩ = some (.int .i64 t113) := (blk_cell BK112.out 0).trans rfl; have hcz87_1 : w86.cell? ⟨gb112, 1, none⟩ = some (.int .i64 t114) := (blk_cell BK112.out 1).trans rfl; have hcz87_2 : w86.cell? ⟨gb112, 2, none⟩ = some (.int .i64 t115) := (blk_cell BK112.out 2).trans rfl; have hcz87_3 : w86.cell? ⟨gb112, 3, none⟩ = some (.string t116) := (blk_cell BK112.out 3).trans rfl; have hfz87_0 := blk_frozen BK112.out 0; have hfz87_1 := blk_frozen BK112.out 1; have hfz87_2 := blk_frozen BK112.out 2; have hfz87_3 := blk_frozen BK112.out 3) | (go_at_call 27; (with_reducible refine (footwayref02_Print.calls kj62 t113 t114 t115 t116 t140 _ A75.out).mono ?_); rintro e w88 ⟨rfl, hb⟩; have n0_ := Aside0.mk (blk_below (g := gb112) (o := .cells #[.int .i64 t113, .int .i64 t114, .int .i64 t115, .string t116] 23 (0, 0)) (by (with_reducible repeat (first | refine blk_drewN ?_ _ | refine blk_drew ?_ | refine blk_alloc ?_ _)); exact BK112.out) hb); have n1_ := Aside0.mk (blk_below (g := gb126) (o := .cells #[.int .i64 t121, .int .i64 t122, .int .i64 t123, .string t124] 23 (0, 0)) (by (with_reducible repeat (first | refine blk_drewN ?_ _ | refine blk_drew ?_ | refine blk_alloc ?_ _)); exact BK126.out) hb); have n2_ := Aside0.mk (blk_below (g := gb134) (o := .cells #[.int .i64 t129, .int .i64 t130, .int .i64 t131, .string t132] 23 (0, 0)) (by (with_reducible repeat (first | refine blk_drewN ?_ _ | refine blk_drew ?_ | refine blk_alloc ?_ _)); exact BK134.out) hb); have n3_ := Aside0.mk (below_step (by repeat (first | (with_reducible first | exact HB.out | apply below_alloc | apply pw_below_drewN | apply below_drew1 | refine below_set ?_ GE112.out | refine below_set ?_ GE126.out | refine below_set ?_ GE134.out) | exact HB.out)) hb); clear BK112; clear BK126; clear BK134; clear HB; have BK112 := n0_; have BK126 := n1_; have BK134 := n2_; have HB := n3_; clear n0_ n1_ n2_ n3_; (try clear hb); (try clear hb2); (try clear hk); (try clear hi)))
                          go_ret
                          exact ⟨by first | rfl | (simp [errW_none, errW_some] <;> rfl) | (simp only [← hji4]; first | rfl | (simp [errW_none, errW_some] <;> rfl)) | (simp [*, errW_none, errW_some] <;> rfl), by repeat (first | (with_reducible first | exact HB.out | apply below_alloc | apply pw_below_drewN | apply below_drew1 | refine below_set ?_ GE112.out | refine below_set ?_ GE126.out | refine below_set ?_ GE134.out) | exact HB.out)⟩
                      · rw [if_neg c74] at H
                        have c74b0 : (t120 == 0) = false := beq_eq_false_iff_ne.mpr c74
                        have c74b1 : (t120 != 0) = true := bne_iff_ne.mpr c74
                        obtain rfl := Option.some.inj H
                        have hnb89 := NB112_126.out
                        have hnc89 := NB126_112.out
                        have hnb90 := NB112_134.out
                        have hnc90 := NB134_112.out
                        have hcz91_0 : wc.cell? ⟨gb112, 0, none⟩ = some (.int .i64 t113) := (blk_cell BK112.out 0).trans rfl
                        have hcz91_1 : wc.cell? ⟨gb112, 1, none⟩ = some (.int .i64 t114) := (blk_cell BK112.out 1).trans rfl
                        have hcz91_2 : wc.cell? ⟨gb112, 2, none⟩ = some (.int .i64 t115) := (blk_cell BK112.out 2).trans rfl
                        have hcz91_3 : wc.cell? ⟨gb112, 3, none⟩ = some (.string t116) := (blk_cell BK112.out 3).trans rfl
                        have hfz91_0 := blk_frozen BK112.out 0
                        have hfz91_1 := blk_frozen BK112.out 1
                        have hfz91_2 := blk_frozen BK112.out 2
                        have hfz91_3 := blk_frozen BK112.out 3
                        go_wp2_with (first | ((with_reducible refine gate_callee (f := 25) rfl ?_); refine goesL_ (some 89) rfl rfl Try.func25 (by kernel_rfl) rfl #[.agg #[.int .i64 t113, .int .i64 t114, .int .i64 t115, .string t116]] rfl (by (try simp only [List.map_toArray, List.map_cons, List.map_nil]); first | done | rfl | (simp only [List.length_drop, List.length_take]; rfl)) ?_; (with_reducible refine (footwayref02_Right.calls t113 t114 t115 t116 true _ A71.out).mono ?_); rintro e w92 ⟨rfl, hb⟩; refine ⟨_, rfl, ?_⟩; have n0_ := Aside0.mk (blk_below (g := gb112) (o := .cells #[.int .i64 t113, .int .i64 t114, .int .i64 t115, .string t116] 23 (0, 0)) (by (with_reducible repeat (first | refine blk_drewN ?_ _ | refine blk_drew ?_ | refine blk_alloc ?_ _)); exact BK112.out) hb); have n1_ := Aside0.mk (blk_below (g := gb126) (o := .cells #[.int .i64 t121, .int .i64 t122, .int .i64 t123, .string t124] 23 (0, 0)) (by (with_reducible repeat (first | refine blk_drewN ?_ _ | refine blk_drew ?_ | refine blk_alloc ?_ _)); exact BK126.out) hb); have n2_ := Aside0.mk (blk_below (g := gb134) (o := .cells #[.int .i64 t129, .int .i64 t130, .int .i64 t131, .string t132] 23 (0, 0)) (by (with_reducible repeat (first | refine blk_drewN ?_ _ | refine blk_drew ?_ | refine blk_alloc ?_ _)); exact BK134.out) hb); have n3_ := Aside0.mk (below_step (by repeat (first | (with_reducible first | exact HB.out | apply below_alloc | apply pw_below_drewN | apply below_drew1 | refine below_set ?_ GE112.out | refine below_set ?_ GE126.out | refine below_set ?_ GE134.out) | exact HB.out)) hb); clear BK112; clear BK126; clear BK134; clear HB; have BK112 := n0_; have BK126 := n1_; have BK134 := n2_; have HB := n3_; clear n0_ n1_ n2_ n3_; (try clear hb); (try clear hb2); (try clear hk); (try clear hi)))
                        go_ret
                        exact ⟨by first | rfl | (simp [errW_none, errW_some] <;> rfl) | (simp only [← hji4]; first | rfl | (simp [errW_none, errW_some] <;> rfl)) | (simp [*, errW_none, errW_some] <;> rfl), by repeat (first | (with_reducible first | exact HB.out | apply below_alloc | apply pw_below_drewN | apply below_drew1 | refine below_set ?_ GE112.out | refine below_set ?_ GE126.out | refine below_set ?_ GE134.out) | exact HB.out)⟩
                    · rw [if_neg c73] at H
                      have c73b0 : (t118 == 0) = false := beq_eq_false_iff_ne.mpr c73
                      have c73b1 : (t118 != 0) = true := bne_iff_ne.mpr c73
                      obtain rfl := Option.some.inj H
                      have hnb93 := NB112_126.out
                      have hnc93 := NB126_112.out
                      have hnb94 := NB112_134.out
                      have hnc94 := NB134_112.out
                      have hcz95_0 : wc.cell? ⟨gb112, 0, none⟩ = some (.int .i64 t113) := (blk_cell BK112.out 0).trans rfl
                      have hcz95_1 : wc.cell? ⟨gb112, 1, none⟩ = some (.int .i64 t114) := (blk_cell BK112.out 1).trans rfl
                      have hcz95_2 : wc.cell? ⟨gb112, 2, none⟩ = some (.int .i64 t115) := (blk_cell BK112.out 2).trans rfl
                      have hcz95_3 : wc.cell? ⟨gb112, 3, none⟩ = some (.string t116) := (blk_cell BK112.out 3).trans rfl
                      have hfz95_0 := blk_frozen BK112.out 0
                      have hfz95_1 := blk_frozen BK112.out 1
                      have hfz95_2 := blk_frozen BK112.out 2
                      have hfz95_3 := blk_frozen BK112.out 3
                      go_wp2_with (first | ((with_reducible refine gate_callee (f := 25) rfl ?_); refine goesL_ (some 89) rfl rfl Try.func25 (by kernel_rfl) rfl #[.agg #[.int .i64 t113, .int .i64 t114, .int .i64 t115, .string t116]] rfl (by (try simp only [List.map_toArray, List.map_cons, List.map_nil]); first | done | rfl | (simp only [List.length_drop, List.length_take]; rfl)) ?_; (with_reducible refine (footwayref02_Right.calls t113 t114 t115 t116 true _ A71.out).mono ?_); rintro e w96 ⟨rfl, hb⟩; refine ⟨_, rfl, ?_⟩; have n0_ := Aside0.mk (blk_below (g := gb112) (o := .cells #[.int .i64 t113, .int .i64 t114, .int .i64 t115, .string t116] 23 (0, 0)) (by (with_reducible repeat (first | refine blk_drewN ?_ _ | refine blk_drew ?_ | refine blk_alloc ?_ _)); exact BK112.out) hb); have n1_ := Aside0.mk (blk_below (g := gb126) (o := .cells #[.int .i64 t121, .int .i64 t122, .int .i64 t123, .string t124] 23 (0, 0)) (by (with_reducible repeat (first | refine blk_drewN ?_ _ | refine blk_drew ?_ | refine blk_alloc ?_ _)); exact BK126.out) hb); have n2_ := Aside0.mk (blk_below (g := gb134) (o := .cells #[.int .i64 t129, .int .i64 t130, .int .i64 t131, .string t132] 23 (0, 0)) (by (with_reducible repeat (first | refine blk_drewN ?_ _ | refine blk_drew ?_ | refine blk_alloc ?_ _)); exact BK134.out) hb); have n3_ := Aside0.mk (below_step (by repeat (first | (with_reducible first | exact HB.out | apply below_alloc | apply pw_below_drewN | apply below_drew1 | refine below_set ?_ GE112.out | refine below_set ?_ GE126.out | refine below_set ?_ GE134.out) | exact HB.out)) hb); clear BK112; clear BK126; clear BK134; clear HB; have BK112 := n0_; have BK126 := n1_; have BK134 := n2_; have HB := n3_; clear n0_ n1_ n2_ n3_; (try clear hb); (try clear hb2); (try clear hk); (try clear hi)))
                      go_ret
                      exact ⟨by first | rfl | (simp [errW_none, errW_some] <;> rfl) | (simp only [← hji4]; first | rfl | (simp [errW_none, errW_some] <;> rfl)) | (simp [*, errW_none, errW_some] <;> rfl), by repeat (first | (with_reducible first | exact HB.out | apply below_alloc | apply pw_below_drewN | apply below_drew1 | refine below_set ?_ GE112.out | refine below_set ?_ GE126.out | refine below_set ?_ GE134.out) | exact HB.out)⟩
                  · replace c72 := Bool.eq_false_iff.mpr c72
                    subst c72
                    have H1 : (if t118 = 1 then (if t120 = 1 then (if t117.toList = ([] : List UInt8) then (some (t119 == 0)) else (some false)) else (some false)) else (some false)) = some r := by rw [if_neg (show ¬ (false = true) by decide)] at H; exact H
                    clear H
                    have H := H1
                    clear H1
                    by_cases c97 : t118 = 1
                    · rw [if_pos c97] at H
                      have c97b0 : (t118 == 1) = true := beq_iff_eq.mpr c97
                      have c97b1 : (t118 != 1) = false := bne_eq_false_iff_eq.mpr c97
                      clear c97
                      by_cases c98 : t120 = 1
                      · rw [if_pos c98] at H
                        have c98b0 : (t120 == 1) = true := beq_iff_eq.mpr c98
                        have c98b1 : (t120 != 1) = false := bne_eq_false_iff_eq.mpr c98
                        clear c98
                        by_cases c99 : t117.toList = ([] : List UInt8)
                        · rw [if_pos c99] at H
                          have c99b0 : (t117.toList == ([] : List UInt8)) = true := beq_iff_eq.mpr c99
                          have c99b1 : (t117.toList != ([] : List UInt8)) = false := bne_eq_false_iff_eq.mpr c99
                          clear c99
                          obtain rfl := Option.some.inj H
                          have hnb100 := NB112_126.out
                          have hnc100 := NB126_112.out
                          have hnb101 := NB112_134.out
                          have hnc101 := NB134_112.out
                          have hcz102_0 : wc.cell? ⟨gb112, 0, none⟩ = some (.int .i64 t113) := (blk_cell BK112.out 0).trans rfl
                          have hcz102_1 : wc.cell? ⟨gb112, 1, none⟩ = some (.int .i64 t114) := (blk_cell BK112.out 1).trans rfl
                          have hcz102_2 : wc.cell? ⟨gb112, 2, none⟩ = some (.int .i64 t115) := (blk_cell BK112.out 2).trans rfl
                          have hcz102_3 : wc.cell? ⟨gb112, 3, none⟩ = some (.string t116) := (blk_cell BK112.out 3).trans rfl
                          have hfz102_0 := blk_frozen BK112.out 0
                          have hfz102_1 := blk_frozen BK112.out 1
                          have hfz102_2 := blk_frozen BK112.out 2
                          have hfz102_3 := blk_frozen BK112.out 3
                          go_wp2_with (first | ((with_reducible refine gate_callee (f := 25) rfl ?_); refine goesL_ (some 89) rfl rfl Try.func25 (by kernel_rfl) rfl #[.agg #[.int .i64 t113, .int .i64 t114, .int .i64 t115, .string t116]] rfl (by (try simp only [List.map_toArray, List.map_cons, List.map_nil]); first | done | rfl | (simp only [List.length_drop, List.length_take]; rfl)) ?_; (with_reducible refine (footwayref02_Right.calls t113 t114 t115 t116 false _ A71.out).mono ?_); rintro e w103 ⟨rfl, hb⟩; refine ⟨_, rfl, ?_⟩; have n0_ := Aside0.mk (blk_below (g := gb112) (o := .cells #[.int .i64 t113, .int .i64 t114, .int .i64 t115, .string t116] 23 (0, 0)) (by (with_reducible repeat (first | refine blk_drewN ?_ _ | refine blk_drew ?_ | refine blk_alloc ?_ _)); exact BK112.out) hb); have n1_ := Aside0.mk (blk_below (g := gb126) (o := .cells #[.int .i64 t121, .int .i64 t122, .int .i64 t123, .string t124] 23 (0, 0)) (by (with_reducible repeat (first | refine blk_drewN ?_ _ | refine blk_drew ?_ | refine blk_alloc ?_ _)); exact BK126.out) hb); have n2_ := Aside0.mk (blk_below (g := gb134) (o := .cells #[.int .i64 t129, .int .i64 t130, .int .i64 t131, .string t132] 23 (0, 0)) (by (with_reducible repeat (first | refine blk_drewN ?_ _ | refine blk_drew ?_ | refine blk_alloc ?_ _)); exact BK134.out) hb); have n3_ := Aside0.mk (below_step (by repeat (first | (with_reducible first | exact HB.out | apply below_alloc | apply pw_below_drewN | apply below_drew1 | refine below_set ?_ GE112.out | refine below_set ?_ GE126.out | refine below_set ?_ GE134.out) | exact HB.out)) hb); clear BK112; clear BK126; clear BK134; clear HB; have BK112 := n0_; have BK126 := n1_; have BK134 := n2_; have HB := n3_; clear n0_ n1_ n2_ n3_; (try clear hb); (try clear hb2); (try clear hk); (try clear hi)))
                          go_ret
                          exact ⟨by first | rfl | (simp [errW_none, errW_some] <;> rfl) | (simp only [← hji4]; first | rfl | (simp [errW_none, errW_some] <;> rfl)) | (simp [*, errW_none, errW_some] <;> rfl), by repeat (first | (with_reducible first | exact HB.out | apply below_alloc | apply pw_below_drewN | apply below_drew1 | refine below_set ?_ GE112.out | refine below_set ?_ GE126.out | refine below_set ?_ GE134.out) | exact HB.out)⟩
                        · rw [if_neg c99] at H
                          have c99b0 : (t117.toList == ([] : List UInt8)) = false := beq_eq_false_iff_ne.mpr c99
                          have c99b1 : (t117.toList != ([] : List UInt8)) = true := bne_iff_ne.mpr c99
                          obtain rfl := Option.some.inj H
                          have hnb104 := NB112_126.out
                          have hnc104 := NB126_112.out
                          have hnb105 := NB112_134.out
                          have hnc105 := NB134_112.out
                          have hcz106_0 : wc.cell? ⟨gb112, 0, none⟩ = some (.int .i64 t113) := (blk_cell BK112.out 0).trans rfl
                          have hcz106_1 : wc.cell? ⟨gb112, 1, none⟩ = some (.int .i64 t114) := (blk_cell BK112.out 1).trans rfl
                          have hcz106_2 : wc.cell? ⟨gb112, 2, none⟩ = some (.int .i64 t115) := (blk_cell BK112.out 2).trans rfl
                          have hcz106_3 : wc.cell? ⟨gb112, 3, none⟩ = some (.string t116) := (blk_cell BK112.out 3).trans rfl
                          have hfz106_0 := blk_frozen BK112.out 0
                          have hfz106_1 := blk_frozen BK112.out 1
                          have hfz106_2 := blk_frozen BK112.out 2
                          have hfz106_3 := blk_frozen BK112.out 3
                          go_wp2_with (first | ((with_reducible refine gate_callee (f := 25) rfl ?_); refine goesL_ (some 89) rfl rfl Try.func25 (by kernel_rfl) rfl #[.agg #[.int .i64 t113, .int .i64 t114, .int .i64 t115, .string t116]] rfl (by (try simp only [List.map_toArray, List.map_cons, List.map_nil]); first | done | rfl | (simp only [List.length_drop, List.length_take]; rfl)) ?_; (with_reducible refine (footwayref02_Right.calls t113 t114 t115 t116 false _ A71.out).mono ?_); rintro e w107 ⟨rfl, hb⟩; refine ⟨_, rfl, ?_⟩; have n0_ := Aside0.mk (blk_below (g := gb112) (o := .cells #[.int .i64 t113, .int .i64 t114, .int .i64 t115, .string t116] 23 (0, 0)) (by (with_reducible repeat (first | refine blk_drewN ?_ _ | refine blk_drew ?_ | refine blk_alloc ?_ _)); exact BK112.out) hb); have n1_ := Aside0.mk (blk_below (g := gb126) (o := .cells #[.int .i64 t121, .int .i64 t122, .int .i64 t123, .string t124] 23 (0, 0)) (by (with_reducible repeat (first | refine blk_drewN ?_ _ | refine blk_drew ?_ | refine blk_alloc ?_ _)); exact BK126.out) hb); have n2_ := Aside0.mk (blk_below (g := gb134) (o := .cells #[.int .i64 t129, .int .i64 t130, .int .i64 t131, .string t132] 23 (0, 0)) (by (with_reducible repeat (first | refine blk_drewN ?_ _ | refine blk_drew ?_ | refine blk_alloc ?_ _)); exact BK134.out) hb); have n3_ := Aside0.mk (below_step (by repeat (first | (with_reducible first | exact HB.out | apply below_alloc | apply pw_below_drewN | apply below_drew1 | refine below_set ?_ GE112.out | refine below_set ?_ GE126.out | refine below_set ?_ GE134.out) | exact HB.out)) hb); clear BK112; clear BK126; clear BK134; clear HB; have BK112 := n0_; have BK126 := n1_; have BK134 := n2_; have HB := n3_; clear n0_ n1_ n2_ n3_; (try clear hb); (try clear hb2); (try clear hk); (try clear hi)))
                          go_ret
                          exact ⟨by first | rfl | (simp [errW_none, errW_some] <;> rfl) | (simp only [← hji4]; first | rfl | (simp [errW_none, errW_some] <;> rfl)) | (simp [*, errW_none, errW_some] <;> rfl), by repeat (first | (with_reducible first | exact HB.out | apply below_alloc | apply pw_below_drewN | apply below_drew1 | refine below_set ?_ GE112.out | refine below_set ?_ GE126.out | refine below_set ?_ GE134.out) | exact HB.out)⟩
                      · rw [if_neg c98] at H
                        have c98b0 : (t120 == 1) = false := beq_eq_false_iff_ne.mpr c98
                        have c98b1 : (t120 != 1) = true := bne_iff_ne.mpr c98
                        obtain rfl := Option.some.inj H
                        have hnb108 := NB112_126.out
                        have hnc108 := NB126_112.out
                        have hnb109 := NB112_134.out
                        have hnc109 := NB134_112.out
                        have hcz110_0 : wc.cell? ⟨gb112, 0, none⟩ = some (.int .i64 t113) := (blk_cell BK112.out 0).trans rfl
                        have hcz110_1 : wc.cell? ⟨gb112, 1, none⟩ = some (.int .i64 t114) := (blk_cell BK112.out 1).trans rfl
                        have hcz110_2 : wc.cell? ⟨gb112, 2, none⟩ = some (.int .i64 t115) := (blk_cell BK112.out 2).trans rfl
                        have hcz110_3 : wc.cell? ⟨gb112, 3, none⟩ = some (.string t116) := (blk_cell BK112.out 3).trans rfl
                        have hfz110_0 := blk_frozen BK112.out 0
                        have hfz110_1 := blk_frozen BK112.out 1
                        have hfz110_2 := blk_frozen BK112.out 2
                        have hfz110_3 := blk_frozen BK112.out 3
                        go_wp2_with (first | ((with_reducible refine gate_callee (f := 25) rfl ?_); refine goesL_ (some 89) rfl rfl Try.func25 (by kernel_rfl) rfl #[.agg #[.int .i64 t113, .int .i64 t114, .int .i64 t115, .string t116]] rfl (by (try simp only [List.map_toArray, List.map_cons, List.map_nil]); first | done | rfl | (simp only [List.length_drop, List.length_take]; rfl)) ?_; (with_reducible refine (footwayref02_Right.calls t113 t114 t115 t116 false _ A71.out).mono ?_); rintro e w111 ⟨rfl, hb⟩; refine ⟨_, rfl, ?_⟩; have n0_ := Aside0.mk (blk_below (g := gb112) (o := .cells #[.int .i64 t113, .int .i64 t114, .int .i64 t115, .string t116] 23 (0, 0)) (by (with_reducible repeat (first | refine blk_drewN ?_ _ | refine blk_drew ?_ | refine blk_alloc ?_ _)); exact BK112.out) hb); have n1_ := Aside0.mk (blk_below (g := gb126) (o := .cells #[.int .i64 t121, .int .i64 t122, .int .i64 t123, .string t124] 23 (0, 0)) (by (with_reducible repeat (first | refine blk_drewN ?_ _ | refine blk_drew ?_ | refine blk_alloc ?_ _)); exact BK126.out) hb); have n2_ := Aside0.mk (blk_below (g := gb134) (o := .cells #[.int .i64 t129, .int .i64 t130, .int .i64 t131, .string t132] 23 (0, 0)) (by (with_reducible repeat (first | refine blk_drewN ?_ _ | refine blk_drew ?_ | refine blk_alloc ?_ _)); exact BK134.out) hb); have n3_ := Aside0.mk (below_step (by repeat (first | (with_reducible first | exact HB.out | apply below_alloc | apply pw_below_drewN | apply below_drew1 | refine below_set ?_ GE112.out | refine below_set ?_ GE126.out | refine below_set ?_ GE134.out) | exact HB.out)) hb); clear BK112; clear BK126; clear BK134; clear HB; have BK112 := n0_; have BK126 := n1_; have BK134 := n2_; have HB := n3_; clear n0_ n1_ n2_ n3_; (try clear hb); (try clear hb2); (try clear hk); (try clear hi)))
                        go_ret
                        exact ⟨by first | rfl | (simp [errW_none, errW_some] <;> rfl) | (simp only [← hji4]; first | rfl | (simp [errW_none, errW_some] <;> rfl)) | (simp [*, errW_none, errW_some] <;> rfl), by repeat (first | (with_reducible first | exact HB.out | apply below_alloc | apply pw_below_drewN | apply below_drew1 | refine below_set ?_ GE112.out | refine below_set ?_ GE126.out | refine below_set ?_ GE134.out) | exact HB.out)⟩
                    · rw [if_neg c97] at H
                      have c97b0 : (t118 == 1) = false := beq_eq_false_iff_ne.mpr c97
                      have c97b1 : (t118 != 1) = true := bne_iff_ne.mpr c97
                      obtain rfl := Option.some.inj H
                      have hnb112 := NB112_126.out
                      have hnc112 := NB126_112.out
                      have hnb113 := NB112_134.out
                      have hnc113 := NB134_112.out
                      have hcz114_0 : wc.cell? ⟨gb112, 0, none⟩ = some (.int .i64 t113) := (blk_cell BK112.out 0).trans rfl
                      have hcz114_1 : wc.cell? ⟨gb112, 1, none⟩ = some (.int .i64 t114) := (blk_cell BK112.out 1).trans rfl
                      have hcz114_2 : wc.cell? ⟨gb112, 2, none⟩ = some (.int .i64 t115) := (blk_cell BK112.out 2).trans rfl
                      have hcz114_3 : wc.cell? ⟨gb112, 3, none⟩ = some (.string t116) := (blk_cell BK112.out 3).trans rfl
                      have hfz114_0 := blk_frozen BK112.out 0
                      have hfz114_1 := blk_frozen BK112.out 1
                      have hfz114_2 := blk_frozen BK112.out 2
                      have hfz114_3 := blk_frozen BK112.out 3
                      go_wp2_with (first | ((with_reducible refine gate_callee (f := 25) rfl ?_); refine goesL_ (some 89) rfl rfl Try.func25 (by kernel_rfl) rfl #[.agg #[.int .i64 t113, .int .i64 t114, .int .i64 t115, .string t116]] rfl (by (try simp only [List.map_toArray, List.map_cons, List.map_nil]); first | done | rfl | (simp only [List.length_drop, List.length_take]; rfl)) ?_; (with_reducible refine (footwayref02_Right.calls t113 t114 t115 t116 false _ A71.out).mono ?_); rintro e w115 ⟨rfl, hb⟩; refine ⟨_, rfl, ?_⟩; have n0_ := Aside0.mk (blk_below (g := gb112) (o := .cells #[.int .i64 t113, .int .i64 t114, .int .i64 t115, .string t116] 23 (0, 0)) (by (with_reducible repeat (first | refine blk_drewN ?_ _ | refine blk_drew ?_ | refine blk_alloc ?_ _)); exact BK112.out) hb); have n1_ := Aside0.mk (blk_below (g := gb126) (o := .cells #[.int .i64 t121, .int .i64 t122, .int .i64 t123, .string t124] 23 (0, 0)) (by (with_reducible repeat (first | refine blk_drewN ?_ _ | refine blk_drew ?_ | refine blk_alloc ?_ _)); exact BK126.out) hb); have n2_ := Aside0.mk (blk_below (g := gb134) (o := .cells #[.int .i64 t129, .int .i64 t130, .int .i64 t131, .string t132] 23 (0, 0)) (by (with_reducible repeat (first | refine blk_drewN ?_ _ | refine blk_drew ?_ | refine blk_alloc ?_ _)); exact BK134.out) hb); have n3_ := Aside0.mk (below_step (by repeat (first | (with_reducible first | exact HB.out | apply below_alloc | apply pw_below_drewN | apply below_drew1 | refine below_set ?_ GE112.out | refine below_set ?_ GE126.out | refine below_set ?_ GE134.out) | exact HB.out)) hb); clear BK112; clear BK126; clear BK134; clear HB; have BK112 := n0_; have BK126 := n1_; have BK134 := n2_; have HB := n3_; clear n0_ n1_ n2_ n3_; (try clear hb); (try clear hb2); (try clear hk); (try clear hi)))
                      go_ret
                      exact ⟨by first | rfl | (simp [errW_none, errW_some] <;> rfl) | (simp only [← hji4]; first | rfl | (simp [errW_none, errW_some] <;> rfl)) | (simp [*, errW_none, errW_some] <;> rfl), by repeat (first | (with_reducible first | exact HB.out | apply below_alloc | apply pw_below_drewN | apply below_drew1 | refine below_set ?_ GE112.out | refine below_set ?_ GE126.out | refine below_set ?_ GE134.out) | exact HB.out)⟩
    · rw [if_neg c6] at H
      exact absurd H (by simp)
  · rw [if_neg c5] at H
    exact absurd H (by simp)

end Go.Proofs.Ytnikfjfcbpeieaa.PFt
