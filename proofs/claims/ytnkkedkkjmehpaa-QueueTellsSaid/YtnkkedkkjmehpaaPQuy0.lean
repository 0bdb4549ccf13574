-- Laid by a program of this session out of the translation; Lean checks it.
import Derived.Test.YtnkkedkkjmehpaaPQux0
import Derived.Test.YtnkkedkkjmehpaaPQux1
import Derived.Test.YtnkkedkkjmehpaaPQux3
import Derived.Test.YtnkkedkkjmehpaaEQu
namespace Go.Proofs.Ytnkkedkkjmehpaa.PQu
open Go.RowKit Go.Proofs.Ytnkkedkkjmehpaa.EQu Go.Proofs.YtnkkedkkjmehpaaW.PrintWords Go.Proofs.YtnkkedkkjmehpaaW.PrintLast Go.Proofs.YtnkkedkkjmehpaaW.PrintMore
attribute [local go_sem] max2_int min2_int max_two min_two max_three min_three max_four min_four   -- for this text's walks alone
set_option linter.unusedVariables false
set_option linter.unusedSimpArgs false

/-! ### footwaylaw09_QueueTells: function 5 -/
mutual
def footwaylaw09_QueueTells.j0 : Nat → Int → ByteArray → Int → Bool → Int → ByteArray → Int → Int → Int → Bool → Int → List ByteArray → Int → Int → List ByteArray → Int → Int → List ByteArray → Int → Int → List ByteArray → Int → Int → List ByteArray → Int → Int → Int → Option (Bool)
  | 0, _, _, _, _, _, _, _, _, _, _, _, _, _, _, _, _, _, _, _, _, _, _, _, _, _, _, _ => none
  | k + 1, x0, x2, x8, x10, x11, x13, x14, x16, x17, x63, x233000, x233001, x233002, x245000, x245001, x245002, x253000, x253001, x253002, x261000, x261001, x261002, x269000, x269001, x269002, x270000, x270002 => if x63 = true then (some false) else (if x0 < 1 then (footwaylaw09_QueueTells.j1 k x0 x2 x8 x10 x11 x13 x14 x16 x17 true x233000 x233001 x233002 x245000 x245001 x245002 x253000 x253001 x253002 x261000 x261001 x261002 x269000 x269001 x269002 x270000 x270002) else (footwaylaw09_QueueTells.j1 k x0 x2 x8 x10 x11 x13 x14 x16 x17 (decide (x0 > 32)) x233000 x233001 x233002 x245000 x245001 x245002 x253000 x253001 x253002 x261000 x261001 x261002 x269000 x269001 x269002 x270000 x270002))
def footwaylaw09_QueueTells.j1 : Nat → Int → ByteArray → Int → Bool → Int → ByteArray → Int → Int → Int → Bool → Int → List ByteArray → Int → Int → List ByteArray → Int → Int → List ByteArray → Int → Int → List ByteArray → Int → Int → List ByteArray → Int → Int → Int → Option (Bool)
  | 0, _, _, _, _, _, _, _, _, _, _, _, _, _, _, _, _, _, _, _, _, _, _, _, _, _, _, _ => none
  | k + 1, x0, x2, x8, x10, x11, x13, x14, x16, x17, x69, x233000, x233001, x233002, x245000, x245001, x245002, x253000, x253001, x253002, x261000, x261001, x261002, x269000, x269001, x269002, x270000, x270002 => if x69 = true then (if x8 = 2 then ((footwayref09_Same.f k x245000 x245001 x245002 x270000 ([] : List ByteArray) x270002).bind fun t273 => (if t273 = true then (footwaylaw09_QueueTells.j2 k x2 x10 x11 x13 x14 x16 x17 x233000 x233001 x233002 x253000 x253001 x253002 x261000 x261001 x261002 x269000 x269001 x269002 x270000 x270002) else (some false))) else (some false)) else (if x8 = 0 then ((footwayref09_Same.f k x245000 x245001 x245002 x0 ([] : List ByteArray) 0).bind fun t274 => (if t274 = true then (footwaylaw09_QueueTells.j2 k x2 x10 x11 x13 x14 x16 x17 x233000 x233001 x233002 x253000 x253001 x253002 x261000 x261001 x261002 x269000 x269001 x269002 x270000 x270002) else (some false))) else (some false))
def footwaylaw09_QueueTells.j2 : Nat → ByteArray → Bool → Int → ByteArray → Int → Int → Int → Int → List ByteArray → Int → Int → List ByteArray → Int → Int → List ByteArray → Int → Int → List ByteArray → Int → Int → Int → Option (Bool)
  | 0, _, _, _, _, _, _, _, _, _, _, _, _, _, _, _, _, _, _, _, _, _ => none
  | k + 1, x2, x10, x11, x13, x14, x16, x17, x233000, x233001, x233002, x253000, x253001, x253002, x261000, x261001, x261002, x269000, x269001, x269002, x270000, x270002 => (footwayref09_Right.f k x233000 x233001 x233002).bind fun t275 => (if t275 = true then ((footwayref09_Clear.f x233000 x233001 x233002).bind fun bt279 => (if x17 = 0 then (if x16 = bt279.2.2.2 then ((footwayref09_Same.f k x269000 x269001 x269002 bt279.1 bt279.2.1 bt279.2.2.1).bind fun t286 => (footwaylaw09_QueueTells.j3 k x2 x10 x11 x13 x14 (!t286) x233000 x233001 x233002 x253000 x253001 x253002 x261000 x261001 x261002 x270000 x270002)) else (footwaylaw09_QueueTells.j3 k x2 x10 x11 x13 x14 true x233000 x233001 x233002 x253000 x253001 x253002 x261000 x261001 x261002 x270000 x270002)) else (footwaylaw09_QueueTells.j3 k x2 x10 x11 x13 x14 true x233000 x233001 x233002 x253000 x253001 x253002 x261000 x261001 x261002 x270000 x270002))) else (if x11 = 1 then (if x14 = 1 then (if x17 = 1 then (if x10 = true then (some false) else (if x13.toList = ([] : List UInt8) then (if x16 = 0 then ((footwayref09_Same.f k x253000 x253001 x253002 x270000 ([] : List ByteArray) x270002).bind fun t276 => (if t276 = true then ((footwayref09_Same.f k x261000 x261001 x261002 x270000 ([] : List ByteArray) x270002).bind fun t277 => (if t277 = true then ((footwayref09_Same.f k x269000 x269001 x269002 x270000 ([] : List ByteArray) x270002).bind fun t278 => (some t278)) else (some false))) else (some false))) else (some false)) else (some false))) else (some false)) else (some false)) else (some false)))
def footwaylaw09_QueueTells.j3 : Nat → ByteArray → Bool → Int → ByteArray → Int → Bool → Int → List ByteArray → Int → Int → List ByteArray → Int → Int → List ByteArray → Int → Int → Int → Option (Bool)
  | 0, _, _, _, _, _, _, _, _, _, _, _, _, _, _, _, _, _ => none
  | k + 1, x2, x10, x11, x13, x14, x144, x233000, x233001, x233002, x253000, x253001, x253002, x261000, x261001, x261002, x270000, x270002 => if x144 = true then (some false) else (if (x233001.length : Int) = 0 then (if x14 = 4 then (if x13.toList = ([] : List UInt8) then ((footwayref09_Same.f k x261000 x261001 x261002 x270000 ([] : List ByteArray) x270002).bind fun t287 => (if t287 = true then (footwaylaw09_QueueTells.j4 k x2 x10 x11 x233000 x233001 x233002 x253000 x253001 x253002 x270000 x270002) else (some false))) else (some false)) else (some false)) else (if x14 = 0 then (if 0 < (x233001.length : Int) then (if x13.toList = (rdOf ByteArray.empty x233001 0).toList then (if 1 ≤ (x233001.length : Int) then ((footwayref09_Same.f k x261000 x261001 x261002 x233000 (x233001.drop 1) x233002).bind fun t293 => (if t293 = true then (footwaylaw09_QueueTells.j4 k x2 x10 x11 x233000 x233001 x233002 x253000 x253001 x253002 x270000 x270002) else (some false))) else (none)) else (some false)) else (none)) else (some false)))
def footwaylaw09_QueueTells.j4 : Nat → ByteArray → Bool → Int → Int → List ByteArray → Int → Int → List ByteArray → Int → Int → Int → Option (Bool)
  | 0, _, _, _, _, _, _, _, _, _, _, _ => none
  | k + 1, x2, x10, x11, x233000, x233001, x233002, x253000, x253001, x253002, x270000, x270002 => if (x2.size : Int) > 114 then (if x11 = 1 then (if x10 = true then (some false) else ((footwayref09_Same.f k x253000 x253001 x253002 x270000 ([] : List ByteArray) x270002).bind fun t294 => (some t294))) else (some false)) else ((footwayref09_Push.f x233000 x233001 x233002 x2).bind fun bt295 => (if x11 = 0 then (if (x10 == bt295.2.2.2) = true then ((footwayref09_Same.f k x253000 x253001 x253002 bt295.1 bt295.2.1 bt295.2.2.1).bind fun t302 => (some t302)) else (some false)) else (some false)))
end
def footwaylaw09_QueueTells.f (k : Nat) (a0 : Int) (a1_0 : Int) (l1_1 : List ByteArray) (a1_2 : Int) (a2 : ByteArray) : Option (Bool) := (footwaylaw09_few.f k a1_0 l1_1 a1_2).bind fun bt233 => (if 0 ≤ (mn (a2.size : Int) 130) then (if (mn (a2.size : Int) 130) ≤ (a2.size : Int) then ((queue_New.f a0).bind fun bt238 => ((queue_Push.f k bt233.1 bt233.2.1 bt233.2.2 (a2.extract 0 ((mn (a2.size : Int) 130) : Int).toNat)).bind fun bt245 => ((queue_Pop.f bt233.1 bt233.2.1 bt233.2.2).bind fun bt253 => ((queue_Clear.f bt233.1 bt233.2.1 bt233.2.2).bind fun bt261 => ((queue_Right.f bt233.1 bt233.2.1 bt233.2.2).bind fun t270 => ((footwayref09_Right.f k bt233.1 bt233.2.1 bt233.2.2).bind fun t271 => (if (t270 != t271) = true then (footwaylaw09_QueueTells.j0 k a0 (a2.extract 0 ((mn (a2.size : Int) 130) : Int).toNat) bt238.2.2.2 bt245.2.2.2.1 bt245.2.2.2.2 bt253.2.2.2.1 bt253.2.2.2.2 bt261.2.2.2.1 bt261.2.2.2.2 true bt233.1 bt233.2.1 bt233.2.2 bt238.1 bt238.2.1 bt238.2.2.1 bt245.1 bt245.2.1 bt245.2.2.1 bt253.1 bt253.2.1 bt253.2.2.1 bt261.1 bt261.2.1 bt261.2.2.1 0 0) else ((footwaylaw09_alive.f k).bind fun t272 => (footwaylaw09_QueueTells.j0 k a0 (a2.extract 0 ((mn (a2.size : Int) 130) : Int).toNat) bt238.2.2.2 bt245.2.2.2.1 bt245.2.2.2.2 bt253.2.2.2.1 bt253.2.2.2.2 bt261.2.2.2.1 bt261.2.2.2.2 (!t272) bt233.1 bt233.2.1 bt233.2.2 bt238.1 bt238.2.1 bt238.2.2.1 bt245.1 bt245.2.1 bt245.2.2.1 bt253.1 bt253.2.1 bt253.2.2.1 bt261.1 bt261.2.1 bt261.2.2.1 0 0))))))))) else (none)) else (none))
theorem footwaylaw09_QueueTells.mono_l : ∀ k, (∀ y0 y1 y2 y3 y4 y5 y6 y7 y8 y9 y10 y11 y12 y13 y14 y15 y16 y17 y18 y19 y20 y21 y22 y23 y24 y25 y26, LeO (footwaylaw09_QueueTells.j0 k y0 y1 y2 y3 y4 y5 y6 y7 y8 y9 y10 y11 y12 y13 y14 y15 y16 y17 y18 y19 y20 y21 y22 y23 y24 y25 y26) (footwaylaw09_QueueTells.j0 (k + 1) y0 y1 y2 y3 y4 y5 y6 y7 y8 y9 y10 y11 y12 y13 y14 y15 y16 y17 y18 y19 y20 y21 y22 y23 y24 y25 y26)) ∧ (∀ y0 y1 y2 y3 y4 y5 y6 y7 y8 y9 y10 y11 y12 y13 y14 y15 y16 y17 y18 y19 y20 y21 y22 y23 y24 y25 y26, LeO (footwaylaw09_QueueTells.j1 k y0 y1 y2 y3 y4 y5 y6 y7 y8 y9 y10 y11 y12 y13 y14 y15 y16 y17 y18 y19 y20 y21 y22 y23 y24 y25 y26) (footwaylaw09_QueueTells.j1 (k + 1) y0 y1 y2 y3 y4 y5 y6 y7 y8 y9 y10 y11 y12 y13 y14 y15 y16 y17 y18 y19 y20 y21 y22 y23 y24 y25 y26)) ∧ (∀ y0 y1 y2 y3 y4 y5 y6 y7 y8 y9 y10 y11 y12 y13 y14 y15 y16 y17 y18 y19 y20, LeO (footwaylaw09_QueueTells.j2 k y0 y1 y2 y3 y4 y5 y6 y7 y8 y9 y10 y11 y12 y13 y14 y15 y16 y17 y18 y19 y20) (footwaylaw09_QueueTells.j2 (k + 1) y0 y1 y2 y3 y4 y5 y6 y7 y8 y9 y10 y11 y12 y13 y14 y15 y16 y17 y18 y19 y20)) ∧ (∀ y0 y1 y2 y3 y4 y5 y6 y7 y8 y9 y10 y11 y12 y13 y14 y15 y16, LeO (footwaylaw09_QueueTells.j3 k y0 y1 y2 y3 y4 y5 y6 y7 y8 y9 y10 y11 y12 y13 y14 y15 y16) (footwaylaw09_QueueTells.j3 (k + 1) y0 y1 y2 y3 y4 y5 y6 y7 y8 y9 y10 y11 y12 y13 y14 y15 y16)) ∧ (∀ y0 y1 y2 y3 y4 y5 y6 y7 y8 y9 y10, LeO (footwaylaw09_QueueTells.j4 k y0 y1 y2 y3 y4 y5 y6 y7 y8 y9 y10) (footwaylaw09_QueueTells.j4 (k + 1) y0 y1 y2 y3 y4 y5 y6 y7 y8 y9 y10))
  | 0 => ⟨fun _ _ _ _ _ _ _ _ _ _ _ _ _ _ _ _ _ _ _ _ _ _ _ _ _ _ _ r h => by simp [footwaylaw09_QueueTells.j0] at h, fun _ _ _ _ _ _ _ _ _ _ _ _ _ _ _ _ _ _ _ _ _ _ _ _ _ _ _ r h => by simp [footwaylaw09_QueueTells.j1] at h, fun _ _ _ _ _ _ _ _ _ _ _ _ _ _ _ _ _ _ _ _ _ r h => by simp [footwaylaw09_QueueTells.j2] at h, fun _ _ _ _ _ _ _ _ _ _ _ _ _ _ _ _ _ r h => by simp [footwaylaw09_QueueTells.j3] at h, fun _ _ _ _ _ _ _ _ _ _ _ r h => by simp [footwaylaw09_QueueTells.j4] at h⟩
  | k + 1 => by
    obtain ⟨ih0, ih1, ih2, ih3, ih4⟩ := footwaylaw09_QueueTells.mono_l k
    refine ⟨?_, ?_, ?_, ?_, ?_⟩
    · intro y0 y1 y2 y3 y4 y5 y6 y7 y8 y9 y10 y11 y12 y13 y14 y15 y16 y17 y18 y19 y20 y21 y22 y23 y24 y25 y26
      unfold footwaylaw09_QueueTells.j0
      repeat' first
      | (with_reducible exact ih0 _ _ _ _ _ _ _ _ _ _ _ _ _ _ _ _ _ _ _ _ _ _ _ _ _ _ _)
      | (with_reducible exact ih1 _ _ _ _ _ _ _ _ _ _ _ _ _ _ _ _ _ _ _ _ _ _ _ _ _ _ _)
      | (with_reducible exact ih2 _ _ _ _ _ _ _ _ _ _ _ _ _ _ _ _ _ _ _ _ _)
      | (with_reducible exact ih3 _ _ _ _ _ _ _ _ _ _ _ _ _ _ _ _ _)
      | (with_reducible exact ih4 _ _ _ _ _ _ _ _ _ _ _)
      | (with_reducible exact footwaylaw09_alive.mono _)
      | (with_reducible exact footwaylaw09_few.mono _ _ _ _)
      | (with_reducible exact footwayref09_Right.mono _ _ _ _)
      | (with_reducible exact footwayref09_Same.mono _ _ _ _ _ _ _)
      | (with_reducible exact queue_Push.mono _ _ _ _ _)
      | (with_reducible exact LeO.refl _)
      | (with_reducible exact LeO.none _)
      | (with_reducible refine LeO.ite ?_ ?_)
      | (with_reducible refine LeO.bind ?_ (fun _ => ?_))
      | exact ih0 _ _ _ _ _ _ _ _ _ _ _ _ _ _ _ _ _ _ _ _ _ _ _ _ _ _ _
      | exact ih1 _ _ _ _ _ _ _ _ _ _ _ _ _ _ _ _ _ _ _ _ _ _ _ _ _ _ _
      | exact ih2 _ _ _ _ _ _ _ _ _ _ _ _ _ _ _ _ _ _ _ _ _
      | exact ih3 _ _ _ _ _ _ _ _ _ _ _ _ _ _ _ _ _
      | exact ih4 _ _ _ _ _ _ _ _ _ _ _
      | exact footwaylaw09_alive.mono _
      | exact footwaylaw09_few.mono _ _ _ _
      | exact footwayref09_Right.mono _ _ _ _
      | exact footwayref09_Same.mono _ _ _ _ _ _ _
      | exact queue_Push.mono _ _ _ _ _
      | exact LeO.none _
      | refine LeO.ite ?_ ?_
      | refine LeO.bind ?_ (fun _ => ?_)
    · intro y0 y1 y2 y3 y4 y5 y6 y7 y8 y9 y10 y11 y12 y13 y14 y15 y16 y17 y18 y19 y20 y21 y22 y23 y24 y25 y26
      unfold footwaylaw09_QueueTells.j1
      repeat' first
      | (with_reducible exact ih0 _ _ _ _ _ _ _ _ _ _ _ _ _ _ _ _ _ _ _ _ _ _ _ _ _ _ _)
      | (with_reducible exact ih1 _ _ _ _ _ _ _ _ _ _ _ _ _ _ _ _ _ _ _ _ _ _ _ _ _ _ _)
      | (with_reducible exact ih2 _ _ _ _ _ _ _ _ _ _ _ _ _ _ _ _ _ _ _ _ _)
      | (with_reducible exact ih3 _ _ _ _ _ _ _ _ _ _ _ _ _ _ _ _ _)
      | (with_reducible exact ih4 _ _ _ _ _ _ _ _ _ _ _)
      | (with_reducible exact footwaylaw09_alive.mono _)
      | (with_reducible exact footwaylaw09_few.mono _ _ _ _)
      | (with_reducible exact footwayref09_Right.mono _ _ _ _)
      | (with_reducible exact footwayref09_Same.mono _ _ _ _ _ _ _)
      | (with_reducible exact queue_Push.mono _ _ _ _ _)
      | (with_reducible exact LeO.refl _)
      | (with_reducible exact LeO.none _)
      | (with_reducible refine LeO.ite ?_ ?_)
      | (with_reducible refine LeO.bind ?_ (fun _ => ?_))
      | exact ih0 _ _ _ _ _ _ _ _ _ _ _ _ _ _ _ _ _ _ _ _ _ _ _ _ _ _ _
      | exact ih1 _ _ _ _ _ _ _ _ _ _ _ _ _ _ _ _ _ _ _ _ _ _ _ _ _ _ _
      | exact ih2 _ _ _ _ _ _ _ _ _ _ _ _ _ _ _ _ _ _ _ _ _
      | exact ih3 _ _ _ _ _ _ _ _ _ _ _ _ _ _ _ _ _
      | exact ih4 _ _ _ _ _ _ _ _ _ _ _
      | exact footwaylaw09_alive.mono _
      | exact footwaylaw09_few.mono _ _ _ _
      | exact footwayref09_Right.mono _ _ _ _
      | exact footwayref09_Same.mono _ _ _ _ _ _ _
      | exact queue_Push.mono _ _ _ _ _
      | exact LeO.none _
      | refine LeO.ite ?_ ?_
      | refine LeO.bind ?_ (fun _ => ?_)
    · intro y0 y1 y2 y3 y4 y5 y6 y7 y8 y9 y10 y11 y12 y13 y14 y15 y16 y17 y18 y19 y20
      unfold footwaylaw09_QueueTells.j2
      repeat' first
      | (with_reducible exact ih0 _ _ _ _ _ _ _ _ _ _ _ _ _ _ _ _ _ _ _ _ _ _ _ _ _ _ _)
      | (with_reducible exact ih1 _ _ _ _ _ _ _ _ _ _ _ _ _ _ _ _ _ _ _ _ _ _ _ _ _ _ _)
      | (with_reducible exact ih2 _ _ _ _ _ _ _ _ _ _ _ _ _ _ _ _ _ _ _ _ _)
      | (with_reducible exact ih3 _ _ _ _ _ _ _ _ _ _ _ _ _ _ _ _ _)
      | (with_reducible exact ih4 _ _ _ _ _ _ _ _ _ _ _)
      | (with_reducible exact footwaylaw09_alive.mono _)
      | (with_reducible exact footwaylaw09_few.mono _ _ _ _)
      | (with_reducible exact footwayref09_Right.mono _ _ _ _)
      | (with_reducible exact footwayref09_Same.mono _ _ _ _ _ _ _)
      | (with_reducible exact queue_Push.mono _ _ _ _ _)
      | (with_reducible exact LeO.refl _)
      | (with_reducible exact LeO.none _)
      | (with_reducible refine LeO.ite ?_ ?_)
      | (with_reducible refine LeO.bind ?_ (fun _ => ?_))
      | exact ih0 _ _ _ _ _ _ _ _ _ _ _ _ _ _ _ _ _ _ _ _ _ _ _ _ _ _ _
      | exact ih1 _ _ _ _ _ _ _ _ _ _ _ _ _ _ _ _ _ _ _ _ _ _ _ _ _ _ _
      | exact ih2 _ _ _ _ _ _ _ _ _ _ _ _ _ _ _ _ _ _ _ _ _
      | exact ih3 _ _ _ _ _ _ _ _ _ _ _ _ _ _ _ _ _
      | exact ih4 _ _ _ _ _ _ _ _ _ _ _
      | exact footwaylaw09_alive.mono _
      | exact footwaylaw09_few.mono _ _ _ _
      | exact footwayref09_Right.mono _ _ _ _
      | exact footwayref09_Same.mono _ _ _ _ _ _ _
      | exact queue_Push.mono _ _ _ _ _
      | exact LeO.none _
      | refine LeO.ite ?_ ?_
      | refine LeO.bind ?_ (fun _ => ?_)
    · intro y0 y1 y2 y3 y4 y5 y6 y7 y8 y9 y10 y11 y12 y13 y14 y15 y16
      unfold footwaylaw09_QueueTells.j3
      repeat' first
      | (with_reducible exact ih0 _ _ _ _ _ _ _ _ _ _ _ _ _ _ _ _ _ _ _ _ _ _ _ _ _ _ _)
      | (with_reducible exact ih1 _ _ _ _ _ _ _ _ _ _ _ _ _ _ _ _ _ _ _ _ _ _ _ _ _ _ _)
      | (with_reducible exact ih2 _ _ _ _ _ _ _ _ _ _ _ _ _ _ _ _ _ _ _ _ _)
      | (with_reducible exact ih3 _ _ _ _ _ _ _ _ _ _ _ _ _ _ _ _ _)
      | (with_reducible exact ih4 _ _ _ _ _ _ _ _ _ _ _)
      | (with_reducible exact footwaylaw09_alive.mono _)
      | (with_reducible exact footwaylaw09_few.mono _ _ _ _)
      | (with_reducible exact footwayref09_Right.mono _ _ _ _)
      | (with_reducible exact footwayref09_Same.mono _ _ _ _ _ _ _)
      | (with_reducible exact queue_Push.mono _ _ _ _ _)
      | (with_reducible exact LeO.refl _)
      | (with_reducible exact LeO.none _)
      | (with_reducible refine LeO.ite ?_ ?_)
      | (with_reducible refine LeO.bind ?_ (fun _ => ?_))
      | exact ih0 _ _ _ _ _ _ _ _ _ _ _ _ _ _ _ _ _ _ _ _ _ _ _ _ _ _ _
      | exact ih1 _ _ _ _ _ _ _ _ _ _ _ _ _ _ _ _ _ _ _ _ _ _ _ _ _ _ _
      | exact ih2 _ _ _ _ _ _ _ _ _ _ _ _ _ _ _ _ _ _ _ _ _
      | exact ih3 _ _ _ _ _ _ _ _ _ _ _ _ _ _ _ _ _
      | exact ih4 _ _ _ _ _ _ _ _ _ _ _
      | exact footwaylaw09_alive.mono _
      | exact footwaylaw09_few.mono _ _ _ _
      | exact footwayref09_Right.mono _ _ _ _
      | exact footwayref09_Same.mono _ _ _ _ _ _ _
      | exact queue_Push.mono _ _ _ _ _
      | exact LeO.none _
      | refine LeO.ite ?_ ?_
      | refine LeO.bind ?_ (fun _ => ?_)
    · intro y0 y1 y2 y3 y4 y5 y6 y7 y8 y9 y10
      unfold footwaylaw09_QueueTells.j4
      repeat' first
      | (with_reducible exact ih0 _ _ _ _ _ _ _ _ _ _ _ _ _ _ _ _ _ _ _ _ _ _ _ _ _ _ _)
      | (with_reducible exact ih1 _ _ _ _ _ _ _ _ _ _ _ _ _ _ _ _ _ _ _ _ _ _ _ _ _ _ _)
      | (with_reducible exact ih2 _ _ _ _ _ _ _ _ _ _ _ _ _ _ _ _ _ _ _ _ _)
      | (with_reducible exact ih3 _ _ _ _ _ _ _ _ _ _ _ _ _ _ _ _ _)
      | (with_reducible exact ih4 _ _ _ _ _ _ _ _ _ _ _)
      | (with_reducible exact footwaylaw09_alive.mono _)
      | (with_reducible exact footwaylaw09_few.mono _ _ _ _)
      | (with_reducible exact footwayref09_Right.mono _ _ _ _)
      | (with_reducible exact footwayref09_Same.mono _ _ _ _ _ _ _)
      | (with_reducible exact queue_Push.mono _ _ _ _ _)
      | (with_reducible exact LeO.refl _)
      | (with_reducible exact LeO.none _)
      | (with_reducible refine LeO.ite ?_ ?_)
      | (with_reducible refine LeO.bind ?_ (fun _ => ?_))
      | exact ih0 _ _ _ _ _ _ _ _ _ _ _ _ _ _ _ _ _ _ _ _ _ _ _ _ _ _ _
      | exact ih1 _ _ _ _ _ _ _ _ _ _ _ _ _ _ _ _ _ _ _ _ _ _ _ _ _ _ _
      | exact ih2 _ _ _ _ _ _ _ _ _ _ _ _ _ _ _ _ _ _ _ _ _
      | exact ih3 _ _ _ _ _ _ _ _ _ _ _ _ _ _ _ _ _
      | exact ih4 _ _ _ _ _ _ _ _ _ _ _
      | exact footwaylaw09_alive.mono _
      | exact footwaylaw09_few.mono _ _ _ _
      | exact footwayref09_Right.mono _ _ _ _
      | exact footwayref09_Same.mono _ _ _ _ _ _ _
      | exact queue_Push.mono _ _ _ _ _
      | exact LeO.none _
      | refine LeO.ite ?_ ?_
      | refine LeO.bind ?_ (fun _ => ?_)
theorem footwaylaw09_QueueTells.mono : ∀ a0 a1 a2 a3 a4 k, LeO (footwaylaw09_QueueTells.f k a0 a1 a2 a3 a4) (footwaylaw09_QueueTells.f (k + 1) a0 a1 a2 a3 a4) := by
  intro a0 a1 a2 a3 a4 k
  obtain ⟨ih0, ih1, ih2, ih3, ih4⟩ := footwaylaw09_QueueTells.mono_l k
  unfold footwaylaw09_QueueTells.f
  repeat' first
      | (with_reducible exact ih0 _ _ _ _ _ _ _ _ _ _ _ _ _ _ _ _ _ _ _ _ _ _ _ _ _ _ _)
      | (with_reducible exact ih1 _ _ _ _ _ _ _ _ _ _ _ _ _ _ _ _ _ _ _ _ _ _ _ _ _ _ _)
      | (with_reducible exact ih2 _ _ _ _ _ _ _ _ _ _ _ _ _ _ _ _ _ _ _ _ _)
      | (with_reducible exact ih3 _ _ _ _ _ _ _ _ _ _ _ _ _ _ _ _ _)
      | (with_reducible exact ih4 _ _ _ _ _ _ _ _ _ _ _)
      | (with_reducible exact footwaylaw09_alive.mono _)
      | (with_reducible exact footwaylaw09_few.mono _ _ _ _)
      | (with_reducible exact footwayref09_Right.mono _ _ _ _)
      | (with_reducible exact footwayref09_Same.mono _ _ _ _ _ _ _)
      | (with_reducible exact queue_Push.mono _ _ _ _ _)
      | (with_reducible exact LeO.refl _)
      | (with_reducible exact LeO.none _)
      | (with_reducible refine LeO.ite ?_ ?_)
      | (with_reducible refine LeO.bind ?_ (fun _ => ?_))
      | exact ih0 _ _ _ _ _ _ _ _ _ _ _ _ _ _ _ _ _ _ _ _ _ _ _ _ _ _ _
      | exact ih1 _ _ _ _ _ _ _ _ _ _ _ _ _ _ _ _ _ _ _ _ _ _ _ _ _ _ _
      | exact ih2 _ _ _ _ _ _ _ _ _ _ _ _ _ _ _ _ _ _ _ _ _
      | exact ih3 _ _ _ _ _ _ _ _ _ _ _ _ _ _ _ _ _
      | exact ih4 _ _ _ _ _ _ _ _ _ _ _
      | exact footwaylaw09_alive.mono _
      | exact footwaylaw09_few.mono _ _ _ _
      | exact footwayref09_Right.mono _ _ _ _
      | exact footwayref09_Same.mono _ _ _ _ _ _ _
      | exact queue_Push.mono _ _ _ _ _
      | exact LeO.none _
      | refine LeO.ite ?_ ?_
      | refine LeO.bind ?_ (fun _ => ?_)
end Go.Proofs.Ytnkkedkkjmehpaa.PQu
