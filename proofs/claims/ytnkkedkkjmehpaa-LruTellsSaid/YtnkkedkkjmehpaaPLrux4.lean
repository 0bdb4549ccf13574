-- Laid by a program of this session out of the translation; Lean checks it.
import Derived.Test.YtnkkedkkjmehpaaPLrux0
import Derived.Test.YtnkkedkkjmehpaaPLrux1
import Derived.Test.YtnkkedkkjmehpaaPLrux2
import Derived.Test.YtnkkedkkjmehpaaPLrux3
import Derived.Test.YtnkkedkkjmehpaaELru
import Derived.Test.YtnkkedkkjmehpaaELruT
namespace Go.Proofs.Ytnkkedkkjmehpaa.PLru
open Go.RowKit Go.Proofs.Ytnkkedkkjmehpaa.ELru Go.Proofs.YtnkkedkkjmehpaaW.PrintWords Go.Proofs.YtnkkedkkjmehpaaW.PrintLast Go.Proofs.YtnkkedkkjmehpaaW.PrintMore
attribute [local go_sem] max2_int min2_int max_two min_two max_three min_three max_four min_four   -- for this text's walks alone
set_option linter.unusedVariables false
set_option linter.unusedSimpArgs false

/-! ### footwaylaw06_LruTells: function 11 -/
mutual
def footwaylaw06_LruTells.j0 : Nat → List Int → Int → Int → List Int → Int → Int → Int → List Int → Int → List Int → List Int → Int → Bool → Bool → Option (Bool)
  | 0, _, _, _, _, _, _, _, _, _, _, _, _, _, _ => none
  | k + 1, x0, x1, x2, x7, x8, x9, x10, x11, x12, x13, x14, x15, x16, x54 => if x54 = true then (some false) else (if x16 = true then (if (x0.length : Int) = 0 then (if x10 = 4 then (if x9 = 0 then (footwaylaw06_LruTells.j1 k x0 x1 x2 x7 x8 x11 x12 x13 x14 x15) else (some false)) else (some false)) else (if x10 = 0 then (if 0 ≤ (wrap64 ((x0.length : Int) - 1)) then (if (wrap64 ((x0.length : Int) - 1)) < (x0.length : Int) then (if x9 = (rd x0 (wrap64 ((x0.length : Int) - 1))) then (footwaylaw06_LruTells.j1 k x0 x1 x2 x7 x8 x11 x12 x13 x14 x15) else (some false)) else (none)) else (none)) else (some false))) else (if x8 = 1 then (if x10 = 1 then (if x12 = 1 then (if x15 = 1 then (if (x7.length : Int) = 0 then (if x9 = 0 then (if (x11.length : Int) = 0 then (if (x13.length : Int) = 0 then (some ((x14.length : Int) == 0)) else (some false)) else (some false)) else (some false)) else (some false)) else (some false)) else (some false)) else (some false)) else (some false)))
def footwaylaw06_LruTells.j1 : Nat → List Int → Int → Int → List Int → Int → List Int → Int → List Int → List Int → Int → Option (Bool)
  | 0, _, _, _, _, _, _, _, _, _, _ => none
  | k + 1, x0, x1, x2, x7, x8, x11, x12, x13, x14, x15 => if x2 < 0 then (if x15 = 1 then (if (x13.length : Int) = 0 then (if (x14.length : Int) = 0 then (footwaylaw06_LruTells.j2 k x0 x1 x7 x8 x11 x12) else (some false)) else (some false)) else (some false)) else (if x15 = 0 then (if 0 ≤ (mn x2 (x0.length : Int)) then (if (mn x2 (x0.length : Int)) ≤ (x0.length : Int) then ((footwayref06_Same.f k x13 (x0.take ((mn x2 (x0.length : Int)) : Int).toNat)).bind fun t266 => (if t266 = true then ((footwayref06_Back.f k (x0.drop ((mn x2 (x0.length : Int)) : Int).toNat)).bind fun t272 => ((footwayref06_Same.f k x14 t272).bind fun t275 => (if t275 = true then (footwaylaw06_LruTells.j2 k x0 x1 x7 x8 x11 x12) else (some false)))) else (some false))) else (none)) else (none)) else (some false))
def footwaylaw06_LruTells.j2 : Nat → List Int → Int → List Int → Int → List Int → Int → Option (Bool)
  | 0, _, _, _, _, _, _ => none
  | k + 1, x0, x1, x7, x8, x11, x12 => if x1 < 0 then (if x8 = 1 then (if x12 = 1 then (if (x7.length : Int) = 0 then (some ((x11.length : Int) == 0)) else (some false)) else (some false)) else (some false)) else ((footwayref06_Has.f k x0 x1).bind fun t276 => (if t276 = true then (if x12 = 0 then ((footwayref06_Without.f k x0 x1).bind fun t277 => ((footwayref06_Same.f k x11 t277).bind fun t280 => (if t280 = true then (footwaylaw06_LruTells.j3 k x0 x1 x7 x8) else (some false)))) else (some false)) else (if x12 = 4 then (if (x11.length : Int) = 0 then (footwaylaw06_LruTells.j3 k x0 x1 x7 x8) else (some false)) else (some false))))
def footwaylaw06_LruTells.j3 : Nat → List Int → Int → List Int → Int → Option (Bool)
  | 0, _, _, _, _ => none
  | k + 1, x0, x1, x7, x8 => (footwayref06_Use.f k x0 x1).bind fun t281 => (if (t281.length : Int) > 64 then (if x8 = 5 then (some ((x7.length : Int) == 0)) else (some false)) else (if x8 = 0 then ((footwayref06_Same.f k x7 t281).bind fun t284 => (some t284)) else (some false)))
end
def footwaylaw06_LruTells.f (k : Nat) (l0 : List Int) (a1 : Int) (a2 : Int) : Option (Bool) := (footwaylaw06_few.f l0).bind fun t237 => ((lru_Use.f k t237 a1).bind fun bt240 => ((lru_Oldest.f t237).bind fun bt244 => ((lru_Drop.f k t237 a1).bind fun bt246 => ((lru_Trim.f t237 a2).bind fun bt250 => ((footwayref06_Right.f k t237).bind fun t257 => ((lru_Right.f t237).bind fun t258 => (if (t258 != t257) = true then (footwaylaw06_LruTells.j0 k t237 a1 a2 bt240.1 bt240.2 bt244.1 bt244.2 bt246.1 bt246.2 bt250.1 bt250.2.1 bt250.2.2 t257 true) else ((footwaylaw06_alive.f k).bind fun t259 => (footwaylaw06_LruTells.j0 k t237 a1 a2 bt240.1 bt240.2 bt244.1 bt244.2 bt246.1 bt246.2 bt250.1 bt250.2.1 bt250.2.2 t257 (!t259))))))))))
theorem footwaylaw06_LruTells.mono_l : ∀ k, (∀ y0 y1 y2 y3 y4 y5 y6 y7 y8 y9 y10 y11 y12 y13, LeO (footwaylaw06_LruTells.j0 k y0 y1 y2 y3 y4 y5 y6 y7 y8 y9 y10 y11 y12 y13) (footwaylaw06_LruTells.j0 (k + 1) y0 y1 y2 y3 y4 y5 y6 y7 y8 y9 y10 y11 y12 y13)) ∧ (∀ y0 y1 y2 y3 y4 y5 y6 y7 y8 y9, LeO (footwaylaw06_LruTells.j1 k y0 y1 y2 y3 y4 y5 y6 y7 y8 y9) (footwaylaw06_LruTells.j1 (k + 1) y0 y1 y2 y3 y4 y5 y6 y7 y8 y9)) ∧ (∀ y0 y1 y2 y3 y4 y5, LeO (footwaylaw06_LruTells.j2 k y0 y1 y2 y3 y4 y5) (footwaylaw06_LruTells.j2 (k + 1) y0 y1 y2 y3 y4 y5)) ∧ (∀ y0 y1 y2 y3, LeO (footwaylaw06_LruTells.j3 k y0 y1 y2 y3) (footwaylaw06_LruTells.j3 (k + 1) y0 y1 y2 y3))
  | 0 => ⟨fun _ _ _ _ _ _ _ _ _ _ _ _ _ _ r h => by simp [footwaylaw06_LruTells.j0] at h, fun _ _ _ _ _ _ _ _ _ _ r h => by simp [footwaylaw06_LruTells.j1] at h, fun _ _ _ _ _ _ r h => by simp [footwaylaw06_LruTells.j2] at h, fun _ _ _ _ r h => by simp [footwaylaw06_LruTells.j3] at h⟩
  | k + 1 => by
    obtain ⟨ih0, ih1, ih2, ih3⟩ := footwaylaw06_LruTells.mono_l k
    refine ⟨?_, ?_, ?_, ?_⟩
    · intro y0 y1 y2 y3 y4 y5 y6 y7 y8 y9 y10 y11 y12 y13
      unfold footwaylaw06_LruTells.j0
      repeat' first
      | (with_reducible exact ih0 _ _ _ _ _ _ _ _ _ _ _ _ _ _)
      | (with_reducible exact ih1 _ _ _ _ _ _ _ _ _ _)
      | (with_reducible exact ih2 _ _ _ _ _ _)
      | (with_reducible exact ih3 _ _ _ _)
      | (with_reducible exact footwaylaw06_alive.mono _)
      | (with_reducible exact footwayref06_Back.mono _ _)
      | (with_reducible exact footwayref06_Has.mono _ _ _)
      | (with_reducible exact footwayref06_Right.mono _ _)
      | (with_reducible exact footwayref06_Same.mono _ _ _)
      | (with_reducible exact footwayref06_Use.mono _ _ _)
      | (with_reducible exact footwayref06_Without.mono _ _ _)
      | (with_reducible exact lru_Drop.mono _ _ _)
      | (with_reducible exact lru_Use.mono _ _ _)
      | (with_reducible exact LeO.refl _)
      | (with_reducible exact LeO.none _)
      | (with_reducible refine LeO.ite ?_ ?_)
      | (with_reducible refine LeO.bind ?_ (fun _ => ?_))
      | exact ih0 _ _ _ _ _ _ _ _ _ _ _ _ _ _
      | exact ih1 _ _ _ _ _ _ _ _ _ _
      | exact ih2 _ _ _ _ _ _
      | exact ih3 _ _ _ _
      | exact footwaylaw06_alive.mono _
      | exact footwayref06_Back.mono _ _
      | exact footwayref06_Has.mono _ _ _
      | exact footwayref06_Right.mono _ _
      | exact footwayref06_Same.mono _ _ _
      | exact footwayref06_Use.mono _ _ _
      | exact footwayref06_Without.mono _ _ _
      | exact lru_Drop.mono _ _ _
      | exact lru_Use.mono _ _ _
      | exact LeO.none _
      | refine LeO.ite ?_ ?_
      | refine LeO.bind ?_ (fun _ => ?_)
    · intro y0 y1 y2 y3 y4 y5 y6 y7 y8 y9
      unfold footwaylaw06_LruTells.j1
      repeat' first
      | (with_reducible exact ih0 _ _ _ _ _ _ _ _ _ _ _ _ _ _)
      | (with_reducible exact ih1 _ _ _ _ _ _ _ _ _ _)
      | (with_reducible exact ih2 _ _ _ _ _ _)
      | (with_reducible exact ih3 _ _ _ _)
      | (with_reducible exact footwaylaw06_alive.mono _)
      | (with_reducible exact footwayref06_Back.mono _ _)
      | (with_reducible exact footwayref06_Has.mono _ _ _)
      | (with_reducible exact footwayref06_Right.mono _ _)
      | (with_reducible exact footwayref06_Same.mono _ _ _)
      | (with_reducible exact footwayref06_Use.mono _ _ _)
      | (with_reducible exact footwayref06_Without.mono _ _ _)
      | (with_reducible exact lru_Drop.mono _ _ _)
      | (with_reducible exact lru_Use.mono _ _ _)
      | (with_reducible exact LeO.refl _)
      | (with_reducible exact LeO.none _)
      | (with_reducible refine LeO.ite ?_ ?_)
      | (with_reducible refine LeO.bind ?_ (fun _ => ?_))
      | exact ih0 _ _ _ _ _ _ _ _ _ _ _ _ _ _
      | exact ih1 _ _ _ _ _ _ _ _ _ _
      | exact ih2 _ _ _ _ _ _
      | exact ih3 _ _ _ _
      | exact footwaylaw06_alive.mono _
      | exact footwayref06_Back.mono _ _
      | exact footwayref06_Has.mono _ _ _
      | exact footwayref06_Right.mono _ _
      | exact footwayref06_Same.mono _ _ _
      | exact footwayref06_Use.mono _ _ _
      | exact footwayref06_Without.mono _ _ _
      | exact lru_Drop.mono _ _ _
      | exact lru_Use.mono _ _ _
      | exact LeO.none _
      | refine LeO.ite ?_ ?_
      | refine LeO.bind ?_ (fun _ => ?_)
    · intro y0 y1 y2 y3 y4 y5
      unfold footwaylaw06_LruTells.j2
      repeat' first
      | (with_reducible exact ih0 _ _ _ _ _ _ _ _ _ _ _ _ _ _)
      | (with_reducible exact ih1 _ _ _ _ _ _ _ _ _ _)
      | (with_reducible exact ih2 _ _ _ _ _ _)
      | (with_reducible exact ih3 _ _ _ _)
      | (with_reducible exact footwaylaw06_alive.mono _)
      | (with_reducible exact footwayref06_Back.mono _ _)
      | (with_reducible exact footwayref06_Has.mono _ _ _)
      | (with_reducible exact footwayref06_Right.mono _ _)
      | (with_reducible exact footwayref06_Same.mono _ _ _)
      | (with_reducible exact footwayref06_Use.mono _ _ _)
      | (with_reducible exact footwayref06_Without.mono _ _ _)
      | (with_reducible exact lru_Drop.mono _ _ _)
      | (with_reducible exact lru_Use.mono _ _ _)
      | (with_reducible exact LeO.refl _)
      | (with_reducible exact LeO.none _)
      | (with_reducible refine LeO.ite ?_ ?_)
      | (with_reducible refine LeO.bind ?_ (fun _ => ?_))
      | exact ih0 _ _ _ _ _ _ _ _ _ _ _ _ _ _
      | exact ih1 _ _ _ _ _ _ _ _ _ _
      | exact ih2 _ _ _ _ _ _
      | exact ih3 _ _ _ _
      | exact footwaylaw06_alive.mono _
      | exact footwayref06_Back.mono _ _
      | exact footwayref06_Has.mono _ _ _
      | exact footwayref06_Right.mono _ _
      | exact footwayref06_Same.mono _ _ _
      | exact footwayref06_Use.mono _ _ _
      | exact footwayref06_Without.mono _ _ _
      | exact lru_Drop.mono _ _ _
      | exact lru_Use.mono _ _ _
      | exact LeO.none _
      | refine LeO.ite ?_ ?_
      | refine LeO.bind ?_ (fun _ => ?_)
    · intro y0 y1 y2 y3
      unfold footwaylaw06_LruTells.j3
      repeat' first
      | (with_reducible exact ih0 _ _ _ _ _ _ _ _ _ _ _ _ _ _)
      | (with_reducible exact ih1 _ _ _ _ _ _ _ _ _ _)
      | (with_reducible exact ih2 _ _ _ _ _ _)
      | (with_reducible exact ih3 _ _ _ _)
      | (with_reducible exact footwaylaw06_alive.mono _)
      | (with_reducible exact footwayref06_Back.mono _ _)
      | (with_reducible exact footwayref06_Has.mono _ _ _)
      | (with_reducible exact footwayref06_Right.mono _ _)
      | (with_reducible exact footwayref06_Same.mono _ _ _)
      | (with_reducible exact footwayref06_Use.mono _ _ _)
      | (with_reducible exact footwayref06_Without.mono _ _ _)
      | (with_reducible exact lru_Drop.mono _ _ _)
      | (with_reducible exact lru_Use.mono _ _ _)
      | (with_reducible exact LeO.refl _)
      | (with_reducible exact LeO.none _)
      | (with_reducible refine LeO.ite ?_ ?_)
      | (with_reducible refine LeO.bind ?_ (fun _ => ?_))
      | exact ih0 _ _ _ _ _ _ _ _ _ _ _ _ _ _
      | exact ih1 _ _ _ _ _ _ _ _ _ _
      | exact ih2 _ _ _ _ _ _
      | exact ih3 _ _ _ _
      | exact footwaylaw06_alive.mono _
      | exact footwayref06_Back.mono _ _
      | exact footwayref06_Has.mono _ _ _
      | exact footwayref06_Right.mono _ _
      | exact footwayref06_Same.mono _ _ _
      | exact footwayref06_Use.mono _ _ _
      | exact footwayref06_Without.mono _ _ _
      | exact lru_Drop.mono _ _ _
      | exact lru_Use.mono _ _ _
      | exact LeO.none _
      | refine LeO.ite ?_ ?_
      | refine LeO.bind ?_ (fun _ => ?_)
theorem footwaylaw06_LruTells.mono : ∀ a0 a1 a2 k, LeO (footwaylaw06_LruTells.f k a0 a1 a2) (footwaylaw06_LruTells.f (k + 1) a0 a1 a2) := by
  intro a0 a1 a2 k
  obtain ⟨ih0, ih1, ih2, ih3⟩ := footwaylaw06_LruTells.mono_l k
  unfold footwaylaw06_LruTells.f
  repeat' first
      | (with_reducible exact ih0 _ _ _ _ _ _ _ _ _ _ _ _ _ _)
      | (with_reducible exact ih1 _ _ _ _ _ _ _ _ _ _)
      | (with_reducible exact ih2 _ _ _ _ _ _)
      | (with_reducible exact ih3 _ _ _ _)
      | (with_reducible exact footwaylaw06_alive.mono _)
      | (with_reducible exact footwayref06_Back.mono _ _)
      | (with_reducible exact footwayref06_Has.mono _ _ _)
      | (with_reducible exact footwayref06_Right.mono _ _)
      | (with_reducible exact footwayref06_Same.mono _ _ _)
      | (with_reducible exact footwayref06_Use.mono _ _ _)
      | (with_reducible exact footwayref06_Without.mono _ _ _)
      | (with_reducible exact lru_Drop.mono _ _ _)
      | (with_reducible exact lru_Use.mono _ _ _)
      | (with_reducible exact LeO.refl _)
      | (with_reducible exact LeO.none _)
      | (with_reducible refine LeO.ite ?_ ?_)
      | (with_reducible refine LeO.bind ?_ (fun _ => ?_))
      | exact ih0 _ _ _ _ _ _ _ _ _ _ _ _ _ _
      | exact ih1 _ _ _ _ _ _ _ _ _ _
      | exact ih2 _ _ _ _ _ _
      | exact ih3 _ _ _ _
      | exact footwaylaw06_alive.mono _
      | exact footwayref06_Back.mono _ _
      | exact footwayref06_Has.mono _ _ _
      | exact footwayref06_Right.mono _ _
      | exact footwayref06_Same.mono _ _ _
      | exact footwayref06_Use.mono _ _ _
      | exact footwayref06_Without.mono _ _ _
      | exact lru_Drop.mono _ _ _
      | exact lru_Use.mono _ _ _
      | exact LeO.none _
      | refine LeO.ite ?_ ?_
      | refine LeO.bind ?_ (fun _ => ?_)
set_option maxHeartbeats 8000000 in
set_option maxRecDepth 100000 in
theorem footwaylaw06_LruTells.calls (k : Nat) (A0 : Option Addr) (c0 : Nat) (l0 : List Int) (a1 : Int) (a2 : Int) (r : Bool) (w : World) (hr0 : Kd.C (Kd.int .i64) w A0 l0.length l0) (hc0 : l0.length ≤ c0) (h : footwaylaw06_LruTells.f k l0 a1 a2 = some r) :
    Calls Try.prog 11 #[.slice A0 l0.length c0, .int .i64 a1, .int .i64 a2] w fun e w' => e = .returned (.bool r) ∧ Below w.heap.size w w' := by
  have HR0 := Aside0.mk hr0
  have HC0 := Aside0.mk hc0
  clear hr0 hc0
  have HB := Aside0.mk (Below.refl w.heap.size w)
  have H : ((footwaylaw06_few.f l0).bind fun t237 => ((lru_Use.f k t237 a1).bind fun bt240 => ((lru_Oldest.f t237).bind fun bt244 => ((lru_Drop.f k t237 a1).bind fun bt246 => ((lru_Trim.f t237 a2).bind fun bt250 => ((footwayref06_Right.f k t237).bind fun t257 => ((lru_Right.f t237).bind fun t258 => (if (t258 != t257) = true then (footwaylaw06_LruTells.j0 k t237 a1 a2 bt240.1 bt240.2 bt244.1 bt244.2 bt246.1 bt246.2 bt250.1 bt250.2.1 bt250.2.2 t257 true) else ((footwaylaw06_alive.f k).bind fun t259 => (footwaylaw06_LruTells.j0 k t237 a1 a2 bt240.1 bt240.2 bt244.1 bt244.2 bt246.1 bt246.2 bt250.1 bt250.2.1 bt250.2.2 t257 (!t259))))))))))) = some r := h
  clear h
  replace H := Option.bind_eq_some_iff.mp H
  obtain ⟨t237, A40, H⟩ := H
  replace H : ((lru_Use.f k t237 a1).bind fun bt240 => ((lru_Oldest.f t237).bind fun bt244 => ((lru_Drop.f k t237 a1).bind fun bt246 => ((lru_Trim.f t237 a2).bind fun bt250 => ((footwayref06_Right.f k t237).bind fun t257 => ((lru_Right.f t237).bind fun t258 => (if (t258 != t257) = true then (footwaylaw06_LruTells.j0 k t237 a1 a2 bt240.1 bt240.2 bt244.1 bt244.2 bt246.1 bt246.2 bt250.1 bt250.2.1 bt250.2.2 t257 true) else ((footwaylaw06_alive.f k).bind fun t259 => (footwaylaw06_LruTells.j0 k t237 a1 a2 bt240.1 bt240.2 bt244.1 bt244.2 bt246.1 bt246.2 bt250.1 bt250.2.1 bt250.2.2 t257 (!t259)))))))))) = some r := H
  have A4 := Aside0.mk A40
  clear A40
  replace H := Option.bind_eq_some_iff.mp H
  obtain ⟨⟨t240, t241⟩, A50, H⟩ := H
  replace H : ((lru_Oldest.f t237).bind fun bt244 => ((lru_Drop.f k t237 a1).bind fun bt246 => ((lru_Trim.f t237 a2).bind fun bt250 => ((footwayref06_Right.f k t237).bind fun t257 => ((lru_Right.f t237).bind fun t258 => (if (t258 != t257) = true then (footwaylaw06_LruTells.j0 k t237 a1 a2 t240 t241 bt244.1 bt244.2 bt246.1 bt246.2 bt250.1 bt250.2.1 bt250.2.2 t257 true) else ((footwaylaw06_alive.f k).bind fun t259 => (footwaylaw06_LruTells.j0 k t237 a1 a2 t240 t241 bt244.1 bt244.2 bt246.1 bt246.2 bt250.1 bt250.2.1 bt250.2.2 t257 (!t259))))))))) = some r := H
  have A5 := Aside0.mk A50
  clear A50
  replace H := Option.bind_eq_some_iff.mp H
  obtain ⟨⟨t244, t245⟩, A60, H⟩ := H
  replace H : ((lru_Drop.f k t237 a1).bind fun bt246 => ((lru_Trim.f t237 a2).bind fun bt250 => ((footwayref06_Right.f k t237).bind fun t257 => ((lru_Right.f t237).bind fun t258 => (if (t258 != t257) = true then (footwaylaw06_LruTells.j0 k t237 a1 a2 t240 t241 t244 t245 bt246.1 bt246.2 bt250.1 bt250.2.1 bt250.2.2 t257 true) else ((footwaylaw06_alive.f k).bind fun t259 => (footwaylaw06_LruTells.j0 k t237 a1 a2 t240 t241 t244 t245 bt246.1 bt246.2 bt250.1 bt250.2.1 bt250.2.2 t257 (!t259)))))))) = some r := H
  have A6 := Aside0.mk A60
  clear A60
  replace H := Option.bind_eq_some_iff.mp H
  obtain ⟨⟨t246, t247⟩, A70, H⟩ := H
  replace H : ((lru_Trim.f t237 a2).bind fun bt250 => ((footwayref06_Right.f k t237).bind fun t257 => ((lru_Right.f t237).bind fun t258 => (if (t258 != t257) = true then (footwaylaw06_LruTells.j0 k t237 a1 a2 t240 t241 t244 t245 t246 t247 bt250.1 bt250.2.1 bt250.2.2 t257 true) else ((footwaylaw06_alive.f k).bind fun t259 => (footwaylaw06_LruTells.j0 k t237 a1 a2 t240 t241 t244 t245 t246 t247 bt250.1 bt250.2.1 bt250.2.2 t257 (!t259))))))) = some r := H
  have A7 := Aside0.mk A70
  clear A70
  replace H := Option.bind_eq_some_iff.mp H
  obtain ⟨⟨t250, t253, t256⟩, A80, H⟩ := H
  replace H : ((footwayref06_Right.f k t237).bind fun t257 => ((lru_Right.f t237).bind fun t258 => (if (t258 != t257) = true then (footwaylaw06_LruTells.j0 k t237 a1 a2 t240 t241 t244 t245 t246 t247 t250 t253 t256 t257 true) else ((footwaylaw06_alive.f k).bind fun t259 => (footwaylaw06_LruTells.j0 k t237 a1 a2 t240 t241 t244 t245 t246 t247 t250 t253 t256 t257 (!t259)))))) = some r := H
  have A8 := Aside0.mk A80
  clear A80
  replace H := Option.bind_eq_some_iff.mp H
  obtain ⟨t257, A90, H⟩ := H
  replace H : ((lru_Right.f t237).bind fun t258 => (if (t258 != t257) = true then (footwaylaw06_LruTells.j0 k t237 a1 a2 t240 t241 t244 t245 t246 t247 t250 t253 t256 t257 true) else ((footwaylaw06_alive.f k).bind fun t259 => (footwaylaw06_LruTells.j0 k t237 a1 a2 t240 t241 t244 t245 t246 t247 t250 t253 t256 t257 (!t259))))) = some r := H
  have A9 := Aside0.mk A90
  clear A90
  have HC10 := Aside0.mk H
  clear H
  go_enter Try.func11, Try.ntmps11
  go_upto_region 7 with (first | ((with_reducible refine gate_callee (f := 12) rfl ?_); refine goesL_ (some 20) rfl rfl Try.func12 (by kernel_rfl) rfl #[.slice A0 l0.length c0] rfl (by (try simp only [List.map_toArray, List.map_cons, List.map_nil]); first | done | rfl | (simp only [List.length_drop, List.length_take]; rfl)) ?_; (with_reducible refine (footwaylaw06_few.calls (fun k_ => k_ < w.heap.size) _ _ l0 t237 _ ?side1 A4.out).mono ?_); (case side1 => exact Kd.V_mk HC0.out (Kd.F_below (Kd.C_F (Kd.heap_int .i64) HR0.out) (by repeat (first | (with_reducible first | exact HB.out | apply below_alloc | apply pw_below_drewN | apply below_drew1) | exact HB.out)))); rintro e w11 ⟨v238, rfl, ho0, hb⟩; refine ⟨_, rfl, ?_⟩; have n0_ := Aside0.mk (Kd.V_lower (Kd.V_mono (ok' := fun k_ => True) ho0 (fun k_ hk_ => trivial)) (below_size (by repeat (first | (with_reducible first | exact HB.out | apply below_alloc | apply pw_below_drewN | apply below_drew1) | exact HB.out)))); have n1_ := Aside0.mk (below_step (by repeat (first | (with_reducible first | exact HB.out | apply below_alloc | apply pw_below_drewN | apply below_drew1) | exact HB.out)) hb); clear HB; have HO239 := n0_; have HB := n1_; clear n0_ n1_; (try clear hb); (try clear hb2); (try clear hk); (try clear hi); (try clear ho0); obtain ⟨Ao12, co12, eo12⟩ := Kd.V_slice HO239.out; subst eo12) | ((with_reducible refine gate_callee (f := 15) rfl ?_); refine goesL_ (some 24) rfl rfl Try.func15 (by kernel_rfl) rfl #[.slice Ao12 t237.length co12, .int .i64 a1] rfl (by (try simp only [List.map_toArray, List.map_cons, List.map_nil]); first | done | rfl | (simp only [List.length_drop, List.length_take]; rfl)) ?_; (with_reducible refine (lru_Use.calls k _ _ t237 a1 t240 t241 _ ?side1 ?side2 A5.out).mono ?_); (case side1 => repeat (first | exact (Kd.V_reads' HO239.out).2.2 | (with_reducible refine Kd.C_alloc ?_ _) | (with_reducible refine Kd.C_drewN ?_ _) | (with_reducible refine Kd.C_drew ?_))); (case side2 => exact (Kd.V_reads' HO239.out).2.1); rintro e w13 ⟨v242, rfl, ho0, hb⟩; refine ⟨_, rfl, ?_⟩; have n0_ := Aside0.mk (Kd.V_elder' (by (with_reducible repeat (first | apply Kd.V_alloc | apply Kd.V_drewN | apply Kd.V_drew)); exact HO239.out) (Kd.R_base ho0) hb); have n1_ := Aside0.mk (Kd.R_lower ho0 (below_size (by repeat (first | (with_reducible first | exact HB.out | apply below_alloc | apply pw_below_drewN | apply below_drew1) | exact HB.out)))); have n2_ := Aside0.mk (below_step (by repeat (first | (with_reducible first | exact HB.out | apply below_alloc | apply pw_below_drewN | apply below_drew1) | exact HB.out)) hb); clear HO239; clear HB; have HO239 := n0_; have HO243 := n1_; have HB := n2_; clear n0_ n1_ n2_; (try clear hb); (try clear hb2); (try clear hk); (try clear hi); (try clear ho0)) | ((with_reducible refine gate_callee (f := 38) rfl ?_); refine goesL_ (some 29) rfl rfl Try.func38 (by kernel_rfl) rfl #[.slice Ao12 t237.length co12] rfl (by (try simp only [List.map_toArray, List.map_cons, List.map_nil]); first | done | rfl | (simp only [List.length_drop, List.length_take]; rfl)) ?_; (with_reducible refine (lru_Oldest.calls _ _ t237 t244 t245 _ ?side1 ?side2 A6.out).mono ?_); (case side1 => repeat (first | exact (Kd.V_reads' HO239.out).2.2 | (with_reducible refine Kd.C_alloc ?_ _) | (with_reducible refine Kd.C_drewN ?_ _) | (with_reducible refine Kd.C_drew ?_))); (case side2 => exact (Kd.V_reads' HO239.out).2.1); rintro e w14 ⟨rfl, hb⟩; refine ⟨_, rfl, ?_⟩; have n0_ := Aside0.mk (Kd.V_below (by (with_reducible repeat (first | apply Kd.V_alloc | apply Kd.V_drewN | apply Kd.V_drew)); exact HO239.out) hb); have n1_ := Aside0.mk (Kd.R_below (by (with_reducible repeat (first | apply Kd.R_alloc | apply Kd.R_drewN | apply Kd.R_drew)); exact HO243.out) hb); have n2_ := Aside0.mk (below_step (by repeat (first | (with_reducible first | exact HB.out | apply below_alloc | apply pw_below_drewN | apply below_drew1) | exact HB.out)) hb); clear HO239; clear HO243; clear HB; have HO239 := n0_; have HO243 := n1_; have HB := n2_; clear n0_ n1_ n2_; (try clear hb); (try clear hb2); (try clear hk); (try clear hi)) | ((with_reducible refine gate_callee (f := 19) rfl ?_); refine goesL_ (some 35) rfl rfl Try.func19 (by kernel_rfl) rfl #[.slice Ao12 t237.length co12, .int .i64 a1] rfl (by (try simp only [List.map_toArray, List.map_cons, List.map_nil]); first | done | rfl | (simp only [List.length_drop, List.length_take]; rfl)) ?_; (with_reducible refine (lru_Drop.calls k _ _ t237 a1 t246 t247 _ ?side1 ?side2 A7.out).mono ?_); (case side1 => repeat (first | exact (Kd.V_reads' HO239.out).2.2 | (with_reducible refine Kd.C_alloc ?_ _) | (with_reducible refine Kd.C_drewN ?_ _) | (with_reducible refine Kd.C_drew ?_))); (case side2 => exact (Kd.V_reads' HO239.out).2.1); rintro e w15 ⟨v248, rfl, ho0, hb⟩; refine ⟨_, rfl, ?_⟩; have n0_ := Aside0.mk (Kd.V_elder' (by (with_reducible repeat (first | apply Kd.V_alloc | apply Kd.V_drewN | apply Kd.V_drew)); exact HO239.out) (Kd.R_base ho0) hb); have n1_ := Aside0.mk (Kd.R_elder' (by (with_reducible repeat (first | apply Kd.R_alloc | apply Kd.R_drewN | apply Kd.R_drew)); exact HO243.out) (Kd.R_base ho0) hb); have n2_ := Aside0.mk (Kd.R_lower (Kd.R_new' ho0 (Kd.R_lt (by (with_reducible repeat (first | apply Kd.R_alloc | apply Kd.R_drewN | apply Kd.R_drew)); exact HO243.out))) (below_size (by repeat (first | (with_reducible first | exact HB.out | apply below_alloc | apply pw_below_drewN | apply below_drew1) | exact HB.out)))); have n3_ := Aside0.mk (below_step (by repeat (first | (with_reducible first | exact HB.out | apply below_alloc | apply pw_below_drewN | apply below_drew1) | exact HB.out)) hb); clear HO239; clear HO243; clear HB; have HO239 := n0_; have HO243 := n1_; have HO249 := n2_; have HB := n3_; clear n0_ n1_ n2_ n3_; (try clear hb); (try clear hb2); (try clear hk); (try clear hi); (try clear ho0)) | ((with_reducible refine gate_callee (f := 37) rfl ?_); refine goesL_ (some 41) rfl rfl Try.func37 (by kernel_rfl) rfl #[.slice Ao12 t237.length co12, .int .i64 a2] rfl (by (try simp only [List.map_toArray, List.map_cons, List.map_nil]); first | done | rfl | (simp only [List.length_drop, List.length_take]; rfl)) ?_; (with_reducible refine (lru_Trim.calls (fun k_ => ((True ∧ some k_ ≠ (v242 : Value).ownBlock) ∧ some k_ ≠ (v248 : Value).ownBlock)) _ _ t237 a2 t250 t253 t256 _ ?side1 A8.out).mono ?_); (case side1 => exact HO239.out); rintro e w16 ⟨v251, v254, rfl, ho0, ho1, hb⟩; refine ⟨_, rfl, ?_⟩; have n0_ := Aside0.mk (Kd.V_elder' (by (with_reducible repeat (first | apply Kd.V_alloc | apply Kd.V_drewN | apply Kd.V_drew)); exact HO239.out) (Kd.R_base ho1) hb); have n1_ := Aside0.mk (Kd.R_elder' (by (with_reducible repeat (first | apply Kd.R_alloc | apply Kd.R_drewN | apply Kd.R_drew)); exact HO243.out) (Kd.R_base ho1) hb); have n2_ := Aside0.mk (Kd.R_elder' (by (with_reducible repeat (first | apply Kd.R_alloc | apply Kd.R_drewN | apply Kd.R_drew)); exact HO249.out) (Kd.R_base ho1) hb); have n3_ := Aside0.mk (Kd.V_lower (Kd.V_mono (ok' := fun k_ => some k_ ≠ (v254 : Value).ownBlock ∧ some k_ ≠ (v242 : Value).ownBlock ∧ some k_ ≠ (v248 : Value).ownBlock) ho0 (fun k_ hk_ => ⟨hk_.2, Or.elim hk_.1 (fun hs_ => hs_.1.2) (fun hn_ => (Kd.fresh' (Kd.R_lt (by (with_reducible repeat (first | apply Kd.R_alloc | apply Kd.R_drewN | apply Kd.R_drew)); exact HO243.out)) k_ hn_)), Or.elim hk_.1 (fun hs_ => hs_.2) (fun hn_ => (Kd.fresh' (Kd.R_lt (by (with_reducible repeat (first | apply Kd.R_alloc | apply Kd.R_drewN | apply Kd.R_drew)); exact HO249.out)) k_ hn_))⟩)) (below_size (by repeat (first | (with_reducible first | exact HB.out | apply below_alloc | apply pw_below_drewN | apply below_drew1) | exact HB.out)))); have n4_ := Aside0.mk (Kd.R_lower (Kd.R_new' (Kd.R_new' (Kd.R_mono (ok' := fun k_ => True) ho1 (fun _ hk_ => trivial)) (Kd.R_lt (by (with_reducible repeat (first | apply Kd.R_alloc | apply Kd.R_drewN | apply Kd.R_drew)); exact HO243.out))) (Kd.R_lt (by (with_reducible repeat (first | apply Kd.R_alloc | apply Kd.R_drewN | apply Kd.R_drew)); exact HO249.out))) (below_size (by repeat (first | (with_reducible first | exact HB.out | apply below_alloc | apply pw_below_drewN | apply below_drew1) | exact HB.out)))); have n5_ := Aside0.mk (below_step (by repeat (first | (with_reducible first | exact HB.out | apply below_alloc | apply pw_below_drewN | apply below_drew1) | exact HB.out)) hb); clear HO239; clear HO243; clear HO249; clear HB; have HO239 := n0_; have HO243 := n1_; have HO249 := n2_; have HO252 := n3_; have HO255 := n4_; have HB := n5_; clear n0_ n1_ n2_ n3_ n4_ n5_; (try clear hb); (try clear hb2); (try clear hk); (try clear hi); (try clear ho0); (try clear ho1)) | ((with_reducible refine gate_callee (f := 43) rfl ?_); refine goesL_ (some 46) rfl rfl Try.func43 (by kernel_rfl) rfl #[.slice Ao12 t237.length co12] rfl (by (try simp only [List.map_toArray, List.map_cons, List.map_nil]); first | done | rfl | (simp only [List.length_drop, List.length_take]; rfl)) ?_; (with_reducible refine (footwayref06_Right.calls k _ _ t237 t257 _ ?side1 ?side2 A9.out).mono ?_); (case side1 => repeat (first | exact (Kd.V_reads' HO239.out).2.2 | (with_reducible refine Kd.C_alloc ?_ _) | (with_reducible refine Kd.C_drewN ?_ _) | (with_reducible refine Kd.C_drew ?_))); (case side2 => exact (Kd.V_reads' HO239.out).2.1); rintro e w' ⟨rfl, ⟨nd, rfl⟩⟩; refine ⟨_, rfl, ?_⟩))
  (try simp only [Act.put, List.setIfInBounds_toArray, List.set_cons_zero, List.set_cons_succ])
  go_cut [54] (fun v54 wc => ∃ (kq : Nat) (x54_9 : Bool), v54 = .bool x54_9 ∧ Aside0 (footwaylaw06_LruTells.j0 kq t237 a1 a2 t240 t241 t244 t245 t246 t247 t250 t253 t256 t257 x54_9 = some r) ∧ Aside0 (kq ≤ k) ∧ Aside0 (Kd.V (Kd.int .i64) 3 wc w.heap.size (fun k_ => some k_ ≠ (v242 : Value).ownBlock ∧ some k_ ≠ (v248 : Value).ownBlock ∧ some k_ ≠ (v254 : Value).ownBlock) (.slice Ao12 t237.length co12) t237) ∧ Aside0 (Kd.R (Kd.int .i64) 3 wc w.heap.size (fun k_ => some k_ ≠ (v248 : Value).ownBlock ∧ some k_ ≠ (v254 : Value).ownBlock) v242 t240) ∧ Aside0 (Kd.R (Kd.int .i64) 3 wc w.heap.size (fun k_ => some k_ ≠ (v242 : Value).ownBlock ∧ some k_ ≠ (v254 : Value).ownBlock) v248 t246) ∧ Aside0 (Kd.V (Kd.int .i64) 3 wc w.heap.size (fun k_ => some k_ ≠ (v242 : Value).ownBlock ∧ some k_ ≠ (v248 : Value).ownBlock ∧ some k_ ≠ (v254 : Value).ownBlock) v251 t250) ∧ Aside0 (Kd.R (Kd.int .i64) 3 wc w.heap.size (fun k_ => some k_ ≠ (v242 : Value).ownBlock ∧ some k_ ≠ (v248 : Value).ownBlock) v254 t253) ∧ Aside0 (Below w.heap.size w wc))
  case first => as_aux_lemma =>
    have H := HC10.out
    clear HC10
    replace H := Option.bind_eq_some_iff.mp H
    obtain ⟨t258, A170, H⟩ := H
    replace H : (if (t258 != t257) = true then (footwaylaw06_LruTells.j0 k t237 a1 a2 t240 t241 t244 t245 t246 t247 t250 t253 t256 t257 true) else ((footwaylaw06_alive.f k).bind fun t259 => (footwaylaw06_LruTells.j0 k t237 a1 a2 t240 t241 t244 t245 t246 t247 t250 t253 t256 t257 (!t259)))) = some r := H
    have A17 := Aside0.mk A170
    clear A170
    by_cases c18 : (t258 != t257) = true
    · rw [if_pos c18] at H
      have c18b0 : (t258 != t257) = true := c18
      (try (have c18b1 : decide (t258 = t257) = false := by simpa using c18))
      (try (have c18b2 : (t258 == t257) = false := by simpa using c18))
      (try (have c18b3 : ¬ (t258 = t257) := by simpa using c18))
      clear c18
      (first | rw [c18b0] | (simp only [i64_w, i32_w]; rw [c18b0]) | skip)
      have H' := Aside0.mk H
      clear H
      go_wp2_with (first | ((with_reducible refine gate_callee (f := 13) rfl ?_); refine goesL_ (some 48) rfl rfl Try.func13 (by kernel_rfl) rfl #[.slice Ao12 t237.length co12] rfl (by (try simp only [List.map_toArray, List.map_cons, List.map_nil]); first | done | rfl | (simp only [List.length_drop, List.length_take]; rfl)) ?_; (with_reducible refine (lru_Right.calls _ _ t237 t258 _ ?side1 ?side2 A17.out).mono ?_); (case side1 => repeat (first | exact (Kd.V_reads' HO239.out).2.2 | (with_reducible refine Kd.C_alloc ?_ _) | (with_reducible refine Kd.C_drewN ?_ _) | (with_reducible refine Kd.C_drew ?_))); (case side2 => exact (Kd.V_reads' HO239.out).2.1); rintro e w19 ⟨rfl, hb⟩; refine ⟨_, rfl, ?_⟩; have n0_ := Aside0.mk (Kd.V_below (by (with_reducible repeat (first | apply Kd.V_alloc | apply Kd.V_drewN | apply Kd.V_drew)); exact HO239.out) hb); have n1_ := Aside0.mk (Kd.R_below (by (with_reducible repeat (first | apply Kd.R_alloc | apply Kd.R_drewN | apply Kd.R_drew)); exact HO243.out) hb); have n2_ := Aside0.mk (Kd.R_below (by (with_reducible repeat (first | apply Kd.R_alloc | apply Kd.R_drewN | apply Kd.R_drew)); exact HO249.out) hb); have n3_ := Aside0.mk (Kd.V_below (by (with_reducible repeat (first | apply Kd.V_alloc | apply Kd.V_drewN | apply Kd.V_drew)); exact HO252.out) hb); have n4_ := Aside0.mk (Kd.R_below (by (with_reducible repeat (first | apply Kd.R_alloc | apply Kd.R_drewN | apply Kd.R_drew)); exact HO255.out) hb); have n5_ := Aside0.mk (below_step (by repeat (first | (with_reducible first | exact HB.out | apply below_alloc | apply pw_below_drewN | apply below_drew1) | exact HB.out)) hb); clear HO239; clear HO243; clear HO249; clear HO252; clear HO255; clear HB; have HO239 := n0_; have HO243 := n1_; have HO249 := n2_; have HO252 := n3_; have HO255 := n4_; have HB := n5_; clear n0_ n1_ n2_ n3_ n4_ n5_; (try clear hb); (try clear hb2); (try clear hk); (try clear hi)))
      go_meet
      case rel => exact ⟨_, (true), (by first | rfl | (simp; done) | (simp [*]; done)), H', ⟨by first | omega | exact Nat.le_refl _⟩, ⟨by (with_reducible repeat (first | apply Kd.V_alloc | apply Kd.V_drewN | apply Kd.V_drew)); exact Kd.V_mono HO239.out (fun _ hk => ⟨hk.1.1.2, ⟨hk.1.2, hk.2⟩⟩)⟩, ⟨by (with_reducible repeat (first | apply Kd.R_alloc | apply Kd.R_drewN | apply Kd.R_drew)); exact Kd.R_mono HO243.out (fun _ hk => ⟨hk.1.2, hk.2⟩)⟩, ⟨by (with_reducible repeat (first | apply Kd.R_alloc | apply Kd.R_drewN | apply Kd.R_drew)); exact Kd.R_mono HO249.out (fun _ hk => ⟨hk.1.2, hk.2⟩)⟩, ⟨by (with_reducible repeat (first | apply Kd.V_alloc | apply Kd.V_drewN | apply Kd.V_drew)); exact Kd.V_mono HO252.out (fun _ hk => ⟨hk.2.1, ⟨hk.2.2, hk.1⟩⟩)⟩, ⟨by (with_reducible repeat (first | apply Kd.R_alloc | apply Kd.R_drewN | apply Kd.R_drew)); exact Kd.R_mono HO255.out (fun _ hk => ⟨hk.1.2, hk.2⟩)⟩, ⟨by repeat (first | (with_reducible first | exact HB.out | apply below_alloc | apply pw_below_drewN | apply below_drew1) | exact HB.out)⟩⟩
    · rw [if_neg c18] at H
      have c18b0 : (t258 != t257) = false := by simpa using c18
      (try (have c18b1 : decide (t258 = t257) = true := by simpa using c18))
      (try (have c18b2 : (t258 == t257) = true := by simpa using c18))
      clear c18
      (first | rw [c18b0] | (simp only [i64_w, i32_w]; rw [c18b0]) | skip)
      replace H := Option.bind_eq_some_iff.mp H
      obtain ⟨t259, A200, H⟩ := H
      replace H : (footwaylaw06_LruTells.j0 k t237 a1 a2 t240 t241 t244 t245 t246 t247 t250 t253 t256 t257 (!t259)) = some r := H
      have A20 := Aside0.mk A200
      clear A200
      have H' := Aside0.mk H
      clear H
      go_wp2_with (first | ((with_reducible refine gate_callee (f := 13) rfl ?_); refine goesL_ (some 48) rfl rfl Try.func13 (by kernel_rfl) rfl #[.slice Ao12 t237.length co12] rfl (by (try simp only [List.map_toArray, List.map_cons, List.map_nil]); first | done | rfl | (simp only [List.length_drop, List.length_take]; rfl)) ?_; (with_reducible refine (lru_Right.calls _ _ t237 t258 _ ?side1 ?side2 A17.out).mono ?_); (case side1 => repeat (first | exact (Kd.V_reads' HO239.out).2.2 | (with_reducible refine Kd.C_alloc ?_ _) | (with_reducible refine Kd.C_drewN ?_ _) | (with_reducible refine Kd.C_drew ?_))); (case side2 => exact (Kd.V_reads' HO239.out).2.1); rintro e w21 ⟨rfl, hb⟩; refine ⟨_, rfl, ?_⟩; have n0_ := Aside0.mk (Kd.V_below (by (with_reducible repeat (first | apply Kd.V_alloc | apply Kd.V_drewN | apply Kd.V_drew)); exact HO239.out) hb); have n1_ := Aside0.mk (Kd.R_below (by (with_reducible repeat (first | apply Kd.R_alloc | apply Kd.R_drewN | apply Kd.R_drew)); exact HO243.out) hb); have n2_ := Aside0.mk (Kd.R_below (by (with_reducible repeat (first | apply Kd.R_alloc | apply Kd.R_drewN | apply Kd.R_drew)); exact HO249.out) hb); have n3_ := Aside0.mk (Kd.V_below (by (with_reducible repeat (first | apply Kd.V_alloc | apply Kd.V_drewN | apply Kd.V_drew)); exact HO252.out) hb); have n4_ := Aside0.mk (Kd.R_below (by (with_reducible repeat (first | apply Kd.R_alloc | apply Kd.R_drewN | apply Kd.R_drew)); exact HO255.out) hb); have n5_ := Aside0.mk (below_step (by repeat (first | (with_reducible first | exact HB.out | apply below_alloc | apply pw_below_drewN | apply below_drew1) | exact HB.out)) hb); clear HO239; clear HO243; clear HO249; clear HO252; clear HO255; clear HB; have HO239 := n0_; have HO243 := n1_; have HO249 := n2_; have HO252 := n3_; have HO255 := n4_; have HB := n5_; clear n0_ n1_ n2_ n3_ n4_ n5_; (try clear hb); (try clear hb2); (try clear hk); (try clear hi)) | (go_at_call 14; (with_reducible refine (footwaylaw06_alive.calls k  t259 _ A20.out).mono ?_); rintro e w22 ⟨rfl, hb⟩; have n0_ := Aside0.mk (Kd.V_below (by (with_reducible repeat (first | apply Kd.V_alloc | apply Kd.V_drewN | apply Kd.V_drew)); exact HO239.out) hb); have n1_ := Aside0.mk (Kd.R_below (by (with_reducible repeat (first | apply Kd.R_alloc | apply Kd.R_drewN | apply Kd.R_drew)); exact HO243.out) hb); have n2_ := Aside0.mk (Kd.R_below (by (with_reducible repeat (first | apply Kd.R_alloc | apply Kd.R_drewN | apply Kd.R_drew)); exact HO249.out) hb); have n3_ := Aside0.mk (Kd.V_below (by (with_reducible repeat (first | apply Kd.V_alloc | apply Kd.V_drewN | apply Kd.V_drew)); exact HO252.out) hb); have n4_ := Aside0.mk (Kd.R_below (by (with_reducible repeat (first | apply Kd.R_alloc | apply Kd.R_drewN | apply Kd.R_drew)); exact HO255.out) hb); have n5_ := Aside0.mk (below_step (by repeat (first | (with_reducible first | exact HB.out | apply below_alloc | apply pw_below_drewN | apply below_drew1) | exact HB.out)) hb); clear HO239; clear HO243; clear HO249; clear HO252; clear HO255; clear HB; have HO239 := n0_; have HO243 := n1_; have HO249 := n2_; have HO252 := n3_; have HO255 := n4_; have HB := n5_; clear n0_ n1_ n2_ n3_ n4_ n5_; (try clear hb); (try clear hb2); (try clear hk); (try clear hi)))
      go_meet
      case rel => exact ⟨_, (!t259), (by first | rfl | (simp; done) | (simp [*]; done)), H', ⟨by first | omega | exact Nat.le_refl _⟩, ⟨by (with_reducible repeat (first | apply Kd.V_alloc | apply Kd.V_drewN | apply Kd.V_drew)); exact Kd.V_mono HO239.out (fun _ hk => ⟨hk.1.1.2, ⟨hk.1.2, hk.2⟩⟩)⟩, ⟨by (with_reducible repeat (first | apply Kd.R_alloc | apply Kd.R_drewN | apply Kd.R_drew)); exact Kd.R_mono HO243.out (fun _ hk => ⟨hk.1.2, hk.2⟩)⟩, ⟨by (with_reducible repeat (first | apply Kd.R_alloc | apply Kd.R_drewN | apply Kd.R_drew)); exact Kd.R_mono HO249.out (fun _ hk => ⟨hk.1.2, hk.2⟩)⟩, ⟨by (with_reducible repeat (first | apply Kd.V_alloc | apply Kd.V_drewN | apply Kd.V_drew)); exact Kd.V_mono HO252.out (fun _ hk => ⟨hk.2.1, ⟨hk.2.2, hk.1⟩⟩)⟩, ⟨by (with_reducible repeat (first | apply Kd.R_alloc | apply Kd.R_drewN | apply Kd.R_drew)); exact Kd.R_mono HO255.out (fun _ hk => ⟨hk.1.2, hk.2⟩)⟩, ⟨by repeat (first | (with_reducible first | exact HB.out | apply below_alloc | apply pw_below_drewN | apply below_drew1) | exact HB.out)⟩⟩
  case rest => as_aux_lemma =>
    clear HC10
    try clear c1
    try clear p2
    try clear c3
    try clear c4
    try clear c11
    try clear c12
    try clear c13
    try clear c15
    try clear c18
    try clear c18b0
    try clear c18b1
    try clear c18b2
    try clear c19
    obtain ⟨kq, x54_9, rfl, HA, HJ9, HO_0, HO_7, HO_11, HO_13, HO_14, HB⟩ := hcut
    cases kq with
    | zero => exact absurd HA.out (by simp [footwaylaw06_LruTells.j0])
    | succ kj9 =>
      have H := HA.out
      clear HA
      simp only [footwaylaw06_LruTells.j0] at H
      by_cases c23 : x54_9 = true
      · subst c23
        have H1 : (some false) = some r := by rw [if_pos rfl] at H; exact H
        clear H
        have H := H1
        clear H1
        obtain rfl := Option.some.inj H
        go_wp2
        go_ret
        exact ⟨by first | rfl | (simp [errW_none, errW_some] <;> rfl) | (simp [*, errW_none, errW_some] <;> rfl), by repeat (first | (with_reducible first | exact HB.out | apply below_alloc | apply pw_below_drewN | apply below_drew1) | exact HB.out)⟩
      · replace c23 := Bool.eq_false_iff.mpr c23
        subst c23
        have H1 : (if t257 = true then (if (t237.length : Int) = 0 then (if t245 = 4 then (if t244 = 0 then (footwaylaw06_LruTells.j1 kj9 t237 a1 a2 t240 t241 t246 t247 t250 t253 t256) else (some false)) else (some false)) else (if t245 = 0 then (if 0 ≤ (wrap64 ((t237.length : Int) - 1)) then (if (wrap64 ((t237.length : Int) - 1)) < (t237.length : Int) then (if t244 = (rd t237 (wrap64 ((t237.length : Int) - 1))) then (footwaylaw06_LruTells.j1 kj9 t237 a1 a2 t240 t241 t246 t247 t250 t253 t256) else (some false)) else (none)) else (none)) else (some false))) else (if t241 = 1 then (if t245 = 1 then (if t247 = 1 then (if t256 = 1 then (if (t240.length : Int) = 0 then (if t244 = 0 then (if (t246.length : Int) = 0 then (if (t250.length : Int) = 0 then (some ((t253.length : Int) == 0)) else (some false)) else (some false)) else (some false)) else (some false)) else (some false)) else (some false)) else (some false)) else (some false))) = some r := by rw [if_neg (show ¬ (false = true) by decide)] at H; exact H
        clear H
        have H := H1
        clear H1
        by_cases c24 : t257 = true
        · subst c24
          have H1 : (if (t237.length : Int) = 0 then (if t245 = 4 then (if t244 = 0 then (footwaylaw06_LruTells.j1 kj9 t237 a1 a2 t240 t241 t246 t247 t250 t253 t256) else (some false)) else (some false)) else (if t245 = 0 then (if 0 ≤ (wrap64 ((t237.length : Int) - 1)) then (if (wrap64 ((t237.length : Int) - 1)) < (t237.length : Int) then (if t244 = (rd t237 (wrap64 ((t237.length : Int) - 1))) then (footwaylaw06_LruTells.j1 kj9 t237 a1 a2 t240 t241 t246 t247 t250 t253 t256) else (some false)) else (none)) else (none)) else (some false))) = some r := by rw [if_pos rfl] at H; exact H
          clear H
          have H := H1
          clear H1
          have HC25 := Aside0.mk H
          clear H
          go_upto_if 97 with (fail)
          go_cut [] (fun wc => ∃ (kq : Nat), Aside0 (footwaylaw06_LruTells.j1 kq t237 a1 a2 t240 t241 t246 t247 t250 t253 t256 = some r) ∧ Aside0 (kq ≤ kj9) ∧ Aside0 (Kd.V (Kd.int .i64) 3 wc w.heap.size (fun k_ => some k_ ≠ (v242 : Value).ownBlock ∧ some k_ ≠ (v248 : Value).ownBlock ∧ some k_ ≠ (v254 : Value).ownBlock) (.slice Ao12 t237.length co12) t237) ∧ Aside0 (Kd.R (Kd.int .i64) 3 wc w.heap.size (fun k_ => some k_ ≠ (v248 : Value).ownBlock ∧ some k_ ≠ (v254 : Value).ownBlock) v242 t240) ∧ Aside0 (Kd.R (Kd.int .i64) 3 wc w.heap.size (fun k_ => some k_ ≠ (v242 : Value).ownBlock ∧ some k_ ≠ (v254 : Value).ownBlock) v248 t246) ∧ Aside0 (Kd.V (Kd.int .i64) 3 wc w.heap.size (fun k_ => some k_ ≠ (v242 : Value).ownBlock ∧ some k_ ≠ (v248 : Value).ownBlock ∧ some k_ ≠ (v254 : Value).ownBlock) v251 t250) ∧ Aside0 (Kd.R (Kd.int .i64) 3 wc w.heap.size (fun k_ => some k_ ≠ (v242 : Value).ownBlock ∧ some k_ ≠ (v248 : Value).ownBlock) v254 t253) ∧ Aside0 (Below w.heap.size w wc))
          case first => as_aux_lemma =>
            have H := HC25.out
            clear HC25
            by_cases c26 : (t237.length : Int) = 0
            · rw [if_pos c26] at H
              have c26b0 : ((t237.length : Int) == 0) = true := beq_iff_eq.mpr c26
              have c26b1 : ((t237.length : Int) != 0) = false := bne_eq_false_iff_eq.mpr c26
              clear c26
              (first | rw [c26b0] | (simp only [i64_w, i32_w]; rw [c26b0]) | skip)
              by_cases c27 : t245 = 4
              · rw [if_pos c27] at H
                have c27b0 : (t245 == 4) = true := beq_iff_eq.mpr c27
                have c27b1 : (t245 != 4) = false := bne_eq_false_iff_eq.mpr c27
                clear c27
                by_cases c28 : t244 = 0
                · rw [if_pos c28] at H
                  have c28b0 : (t244 == 0) = true := beq_iff_eq.mpr c28
                  have c28b1 : (t244 != 0) = false := bne_eq_false_iff_eq.mpr c28
                  clear c28
                  have H' := Aside0.mk H
                  clear H
                  go_wp2
                  go_meet
                  case rel => exact ⟨_, H', ⟨by have := HJ9.out; first | omega | exact Nat.le_refl _⟩, ⟨by (with_reducible repeat (first | apply Kd.V_alloc | apply Kd.V_drewN | apply Kd.V_drew)); exact HO_0.out⟩, ⟨by (with_reducible repeat (first | apply Kd.R_alloc | apply Kd.R_drewN | apply Kd.R_drew)); exact HO_7.out⟩, ⟨by (with_reducible repeat (first | apply Kd.R_alloc | apply Kd.R_drewN | apply Kd.R_drew)); exact HO_11.out⟩, ⟨by (with_reducible repeat (first | apply Kd.V_alloc | apply Kd.V_drewN | apply Kd.V_drew)); exact HO_13.out⟩, ⟨by (with_reducible repeat (first | apply Kd.R_alloc | apply Kd.R_drewN | apply Kd.R_drew)); exact HO_14.out⟩, ⟨by repeat (first | (with_reducible first | exact HB.out | apply below_alloc | apply pw_below_drewN | apply below_drew1) | exact HB.out)⟩⟩
                · rw [if_neg c28] at H
                  have c28b0 : (t244 == 0) = false := beq_eq_false_iff_ne.mpr c28
                  have c28b1 : (t244 != 0) = true := bne_iff_ne.mpr c28
                  obtain rfl := Option.some.inj H
                  go_wp2
                  go_ret
                  exact ⟨by first | rfl | (simp [errW_none, errW_some] <;> rfl) | (simp [*, errW_none, errW_some] <;> rfl), by repeat (first | (with_reducible first | exact HB.out | apply below_alloc | apply pw_below_drewN | apply below_drew1) | exact HB.out)⟩
              · rw [if_neg c27] at H
                have c27b0 : (t245 == 4) = false := beq_eq_false_iff_ne.mpr c27
                have c27b1 : (t245 != 4) = true := bne_iff_ne.mpr c27
                obtain rfl := Option.some.inj H
                go_wp2
                go_ret
                exact ⟨by first | rfl | (simp [errW_none, errW_some] <;> rfl) | (simp [*, errW_none, errW_some] <;> rfl), by repeat (first | (with_reducible first | exact HB.out | apply below_alloc | apply pw_below_drewN | apply below_drew1) | exact HB.out)⟩
            · rw [if_neg c26] at H
              have c26b0 : ((t237.length : Int) == 0) = false := beq_eq_false_iff_ne.mpr c26
              have c26b1 : ((t237.length : Int) != 0) = true := bne_iff_ne.mpr c26
              have c26b2 : ¬ (t237 = []) := fun h_ => c26 (by rw [h_]; rfl)
              (first | rw [c26b0] | (simp only [i64_w, i32_w]; rw [c26b0]) | skip)
              by_cases c29 : t245 = 0
              · rw [if_pos c29] at H
                have c29b0 : (t245 == 0) = true := beq_iff_eq.mpr c29
                have c29b1 : (t245 != 0) = false := bne_eq_false_iff_eq.mpr c29
                clear c29
                obtain ⟨ji30, hji30⟩ : ∃ j_ : Int, (wrap64 ((t237.length : Int) - 1)) = j_ := ⟨_, rfl⟩
                replace H : (if 0 ≤ (ji30) then (if (ji30) < (t237.length : Int) then (if t244 = (rd t237 (ji30)) then (footwaylaw06_LruTells.j1 kj9 t237 a1 a2 t240 t241 t246 t247 t250 t253 t256) else (some false)) else (none)) else (none)) = some r := by first | (rw [hji30] at H; exact H) | (simp only [hji30] at H ⊢; exact H)
                have hji30w : (IntKind.i64.wrap ((t237.length : Int) - 1)) = ji30 := (i64_w _).trans hji30
                by_cases c31 : 0 ≤ (ji30)
                · rw [if_pos c31] at H
                  have c31b0 : decide (0 ≤ (ji30)) = true := decide_eq_true c31
                  clear c31
                  by_cases c32 : (ji30) < (t237.length : Int)
                  · rw [if_pos c32] at H
                    have c32b0 : decide ((ji30) < (t237.length : Int)) = true := decide_eq_true c32
                    clear c32
                    by_cases c33 : t244 = (rd t237 (ji30))
                    · rw [if_pos c33] at H
                      have c33b0 : (t244 == (rd t237 (ji30))) = true := beq_iff_eq.mpr c33
                      have c33b1 : (t244 != (rd t237 (ji30))) = false := bne_eq_false_iff_eq.mpr c33
                      clear c33
                      have H' := Aside0.mk H
                      clear H
                      have p260 : 0 ≤ ((ji30) : Int) := of_decide_eq_true (by first | (with_reducible assumption) | assumption)
                      have q260 : (ji30) < (t237.length : Int) := of_decide_eq_true (by first | (with_reducible assumption) | assumption)
                      obtain ⟨ad260, e260, hx260_0⟩ := Kd.at_int (Kd.V_reads' HO_0.out).2.2 (ji30) p260 q260
                      cases e260
                      replace p260 := eq_true p260
                      replace q260 := eq_true q260
                      go_wp2
                      go_meet
                      case rel => exact ⟨_, H', ⟨by have := HJ9.out; first | omega | exact Nat.le_refl _⟩, ⟨by (with_reducible repeat (first | apply Kd.V_alloc | apply Kd.V_drewN | apply Kd.V_drew)); exact HO_0.out⟩, ⟨by (with_reducible repeat (first | apply Kd.R_alloc | apply Kd.R_drewN | apply Kd.R_drew)); exact HO_7.out⟩, ⟨by (with_reducible repeat (first | apply Kd.R_alloc | apply Kd.R_drewN | apply Kd.R_drew)); exact HO_11.out⟩, ⟨by (with_reducible repeat (first | apply Kd.V_alloc | apply Kd.V_drewN | apply Kd.V_drew)); exact HO_13.out⟩, ⟨by (with_reducible repeat (first | apply Kd.R_alloc | apply Kd.R_drewN | apply Kd.R_drew)); exact HO_14.out⟩, ⟨by repeat (first | (with_reducible first | exact HB.out | apply below_alloc | apply pw_below_drewN | apply below_drew1) | exact HB.out)⟩⟩
                    · rw [if_neg c33] at H
                      have c33b0 : (t244 == (rd t237 (ji30))) = false := beq_eq_false_iff_ne.mpr c33
                      have c33b1 : (t244 != (rd t237 (ji30))) = true := bne_iff_ne.mpr c33
                      obtain rfl := Option.some.inj H
                      have p260 : 0 ≤ ((ji30) : Int) := of_decide_eq_true (by first | (with_reducible assumption) | assumption)
                      have q260 : (ji30) < (t237.length : Int) := of_decide_eq_true (by first | (with_reducible assumption) | assumption)
                      obtain ⟨ad260, e260, hx260_0⟩ := Kd.at_int (Kd.V_reads' HO_0.out).2.2 (ji30) p260 q260
                      cases e260
                      replace p260 := eq_true p260
                      replace q260 := eq_true q260
                      go_wp2
                      go_ret
                      exact ⟨by first | rfl | (simp [errW_none, errW_some] <;> rfl) | (simp only [← hji30]; first | rfl | (simp [errW_none, errW_some] <;> rfl)) | (simp [*, errW_none, errW_some] <;> rfl), by repeat (first | (with_reducible first | exact HB.out | apply below_alloc | apply pw_below_drewN | apply below_drew1) | exact HB.out)⟩
                  · rw [if_neg c32] at H
                    exact absurd H (by simp)
                · rw [if_neg c31] at H
                  exact absurd H (by simp)
              · rw [if_neg c29] at H
                have c29b0 : (t245 == 0) = false := beq_eq_false_iff_ne.mpr c29
                have c29b1 : (t245 != 0) = true := bne_iff_ne.mpr c29
                obtain rfl := Option.some.inj H
                go_wp2
                go_ret
                exact ⟨by first | rfl | (simp [errW_none, errW_some] <;> rfl) | (simp [*, errW_none, errW_some] <;> rfl), by repeat (first | (with_reducible first | exact HB.out | apply below_alloc | apply pw_below_drewN | apply below_drew1) | exact HB.out)⟩
          case rest => as_aux_lemma =>
            clear HC25
            try clear c1
            try clear c2
            try clear p2
            try clear q2
            try clear hx2
            try clear c3
            try clear c4
            try clear p6
            try clear c11
            try clear c12
            try clear c13
            try clear c15
            try clear c18
            try clear c18b0
            try clear c18b1
            try clear c18b2
            try clear c19
            try clear c23
            try clear c24
            try clear c26
            try clear c26b0
            try clear c26b1
            try clear c26b2
            try clear p26
            try clear q26
            try clear hx26
            try clear c27
            try clear c27b0
            try clear c27b1
            try clear c28
            try clear c28b0
            try clear c28b1
            try clear c29
            try clear c29b0
            try clear c29b1
            try clear c31
            try clear c31b0
            try clear c32
            try clear c32b0
            try clear c33
            try clear c33b0
            try clear c33b1
            try clear hx260_0
            try clear p2
            try clear p260
            try clear q260
            obtain ⟨kq, HA, HJ24, HO_0, HO_7, HO_11, HO_13, HO_14, HB⟩ := hcut
            cases kq with
            | zero => exact absurd HA.out (by simp [footwaylaw06_LruTells.j1])
            | succ kj24 =>
              have H := HA.out
              clear HA
              simp only [footwaylaw06_LruTells.j1] at H
              have HC34 := Aside0.mk H
              clear H
              go_upto_if 117 with (fail)
              go_cut [] (fun wc => ∃ (kq : Nat), Aside0 (footwaylaw06_LruTells.j2 kq t237 a1 t240 t241 t246 t247 = some r) ∧ Aside0 (kq ≤ kj24) ∧ Aside0 (Kd.V (Kd.int .i64) 3 wc w.heap.size (fun k_ => some k_ ≠ (v242 : Value).ownBlock ∧ some k_ ≠ (v248 : Value).ownBlock) (.slice Ao12 t237.length co12) t237) ∧ Aside0 (Kd.R (Kd.int .i64) 3 wc w.heap.size (fun k_ => some k_ ≠ (v248 : Value).ownBlock) v242 t240) ∧ Aside0 (Kd.R (Kd.int .i64) 3 wc w.heap.size (fun k_ => some k_ ≠ (v242 : Value).ownBlock) v248 t246) ∧ Aside0 (Below w.heap.size w wc))
              case first => as_aux_lemma =>
                have H := HC34.out
                clear HC34
                by_cases c35 : a2 < 0
                · rw [if_pos c35] at H
                  have c35b0 : decide (a2 < 0) = true := decide_eq_true c35
                  clear c35
                  (first | rw [c35b0] | (simp only [i64_w, i32_w]; rw [c35b0]) | skip)
                  by_cases c36 : t256 = 1
                  · rw [if_pos c36] at H
                    have c36b0 : (t256 == 1) = true := beq_iff_eq.mpr c36
                    have c36b1 : (t256 != 1) = false := bne_eq_false_iff_eq.mpr c36
                    clear c36
                    by_cases c37 : (t250.length : Int) = 0
                    · rw [if_pos c37] at H
                      have c37b0 : ((t250.length : Int) == 0) = true := beq_iff_eq.mpr c37
                      have c37b1 : ((t250.length : Int) != 0) = false := bne_eq_false_iff_eq.mpr c37
                      clear c37
                      by_cases c38 : (t253.length : Int) = 0
                      · rw [if_pos c38] at H
                        have c38b0 : ((t253.length : Int) == 0) = true := beq_iff_eq.mpr c38
                        have c38b1 : ((t253.length : Int) != 0) = false := bne_eq_false_iff_eq.mpr c38
                        clear c38
                        have H' := Aside0.mk H
                        clear H
                        obtain ⟨Ao39, co39, eo39⟩ := Kd.V_slice HO_13.out
                        subst eo39
                        obtain ⟨Ao40, co40, eo40⟩ := Kd.R_slice HO_14.out
                        subst eo40
                        go_wp2
                        go_meet
                        case rel => exact ⟨_, H', ⟨by have := HJ9.out; have := HJ24.out; first | omega | exact Nat.le_refl _⟩, ⟨by (with_reducible repeat (first | apply Kd.V_alloc | apply Kd.V_drewN | apply Kd.V_drew)); exact Kd.V_mono HO_0.out (fun _ hk => ⟨hk.1, hk.2.1⟩)⟩, ⟨by (with_reducible repeat (first | apply Kd.R_alloc | apply Kd.R_drewN | apply Kd.R_drew)); exact Kd.R_mono HO_7.out (fun _ hk => hk.1)⟩, ⟨by (with_reducible repeat (first | apply Kd.R_alloc | apply Kd.R_drewN | apply Kd.R_drew)); exact Kd.R_mono HO_11.out (fun _ hk => hk.1)⟩, ⟨by repeat (first | (with_reducible first | exact HB.out | apply below_alloc | apply pw_below_drewN | apply below_drew1) | exact HB.out)⟩⟩
                      · rw [if_neg c38] at H
                        have c38b0 : ((t253.length : Int) == 0) = false := beq_eq_false_iff_ne.mpr c38
                        have c38b1 : ((t253.length : Int) != 0) = true := bne_iff_ne.mpr c38
                        have c38b2 : ¬ (t253 = []) := fun h_ => c38 (by rw [h_]; rfl)
                        obtain rfl := Option.some.inj H
                        obtain ⟨Ao41, co41, eo41⟩ := Kd.V_slice HO_13.out
                        subst eo41
                        obtain ⟨Ao42, co42, eo42⟩ := Kd.R_slice HO_14.out
                        subst eo42
                        go_wp2
                        go_ret
                        exact ⟨by first | rfl | (simp [errW_none, errW_some] <;> rfl) | (simp [*, errW_none, errW_some] <;> rfl), by repeat (first | (with_reducible first | exact HB.out | apply below_alloc | apply pw_below_drewN | apply below_drew1) | exact HB.out)⟩
                    · rw [if_neg c37] at H
                      have c37b0 : ((t250.length : Int) == 0) = false := beq_eq_false_iff_ne.mpr c37
                      have c37b1 : ((t250.length : Int) != 0) = true := bne_iff_ne.mpr c37
                      have c37b2 : ¬ (t250 = []) := fun h_ => c37 (by rw [h_]; rfl)
                      obtain rfl := Option.some.inj H
                      obtain ⟨Ao43, co43, eo43⟩ := Kd.V_slice HO_13.out
                      subst eo43
                      go_wp2
                      go_ret
                      exact ⟨by first | rfl | (simp [errW_none, errW_some] <;> rfl) | (simp [*, errW_none, errW_some] <;> rfl), by repeat (first | (with_reducible first | exact HB.out | apply below_alloc | apply pw_below_drewN | apply below_drew1) | exact HB.out)⟩
                  · rw [if_neg c36] at H
                    have c36b0 : (t256 == 1) = false := beq_eq_false_iff_ne.mpr c36
                    have c36b1 : (t256 != 1) = true := bne_iff_ne.mpr c36
                    obtain rfl := Option.some.inj H
                    go_wp2
                    go_ret
                    exact ⟨by first | rfl | (simp [errW_none, errW_some] <;> rfl) | (simp [*, errW_none, errW_some] <;> rfl), by repeat (first | (with_reducible first | exact HB.out | apply below_alloc | apply pw_below_drewN | apply below_drew1) | exact HB.out)⟩
                · rw [if_neg c35] at H
                  have c35b0 : decide (a2 < 0) = false := decide_eq_false c35
                  clear c35
                  (first | rw [c35b0] | (simp only [i64_w, i32_w]; rw [c35b0]) | skip)
                  obtain ⟨ji44, hji44⟩ : ∃ j_ : Int, (mn a2 (t237.length : Int)) = j_ := ⟨_, rfl⟩
                  replace H : (if t256 = 0 then (if 0 ≤ (ji44) then (if (ji44) ≤ (t237.length : Int) then ((footwayref06_Same.f kj24 t250 (t237.take ((ji44) : Int).toNat)).bind fun t266 => (if t266 = true then ((footwayref06_Back.f kj24 (t237.drop ((ji44) : Int).toNat)).bind fun t272 => ((footwayref06_Same.f kj24 t253 t272).bind fun t275 => (if t275 = true then (footwaylaw06_LruTells.j2 kj24 t237 a1 t240 t241 t246 t247) else (some false)))) else (some false))) else (none)) else (none)) else (some false)) = some r := by first | (rw [hji44] at H; exact H) | (simp only [hji44] at H ⊢; exact H)
                  have hji44_ : (if (t237.length : Int) < a2 then (t237.length : Int) else a2) = ji44 := hji44
                  by_cases c45 : t256 = 0
                  · rw [if_pos c45] at H
                    have c45b0 : (t256 == 0) = true := beq_iff_eq.mpr c45
                    have c45b1 : (t256 != 0) = false := bne_eq_false_iff_eq.mpr c45
                    clear c45
                    by_cases c46 : 0 ≤ (ji44)
                    · rw [if_pos c46] at H
                      have c46b0 := eq_true c46
                      have c46b1 : decide (0 ≤ (ji44)) = true := decide_eq_true c46
                      clear c46
                      by_cases c47 : (ji44) ≤ (t237.length : Int)
                      · rw [if_pos c47] at H
                        have c47b0 := eq_true c47
                        have c47b1 : decide ((ji44) ≤ (t237.length : Int)) = true := decide_eq_true c47
                        clear c47
                        obtain ⟨y261, hy261⟩ : ∃ y_ : List Int, y_ = (t237.take ((ji44) : Int).toNat) := ⟨_, rfl⟩
                        replace H : ((footwayref06_Same.f kj24 t250 y261).bind fun t266 => (if t266 = true then ((footwayref06_Back.f kj24 (t237.drop ((ji44) : Int).toNat)).bind fun t272 => ((footwayref06_Same.f kj24 t253 t272).bind fun t275 => (if t275 = true then (footwaylaw06_LruTells.j2 kj24 t237 a1 t240 t241 t246 t247) else (some false)))) else (some false))) = some r := by first | (rw [hy261]; with_reducible exact H) | (have H2_ := (Option.bind_some _ _).symm.trans H; rw [hy261]; with_reducible exact H2_) | (have H2_ := (Option.bind_some _ _).symm.trans H; with_reducible exact H2_) | with_reducible exact H | (rw [hy261]; exact H) | exact H
                        have Ny261 := Aside0.mk hy261
                        clear hy261
                        replace H := Option.bind_eq_some_iff.mp H
                        obtain ⟨t266, A480, H⟩ := H
                        replace H : (if t266 = true then ((footwayref06_Back.f kj24 (t237.drop ((ji44) : Int).toNat)).bind fun t272 => ((footwayref06_Same.f kj24 t253 t272).bind fun t275 => (if t275 = true then (footwaylaw06_LruTells.j2 kj24 t237 a1 t240 t241 t246 t247) else (some false)))) else (some false)) = some r := H
                        have A48 := Aside0.mk A480
                        clear A480
                        by_cases c49 : t266 = true
                        · subst c49
                          have H1 : ((footwayref06_Back.f kj24 (t237.drop ((ji44) : Int).toNat)).bind fun t272 => ((footwayref06_Same.f kj24 t253 t272).bind fun t275 => (if t275 = true then (footwaylaw06_LruTells.j2 kj24 t237 a1 t240 t241 t246 t247) else (some false)))) = some r := by rw [if_pos rfl] at H; exact H
                          clear H
                          have H := H1
                          clear H1
                          have c50b0 := eq_true (of_decide_eq_true (by first | (with_reducible assumption) | assumption) : 0 ≤ (ji44))
                          have c51b0 := eq_true (of_decide_eq_true (by first | (with_reducible assumption) | assumption) : (ji44) ≤ (t237.length : Int))
                          obtain ⟨y267, hy267⟩ : ∃ y_ : List Int, y_ = (t237.drop ((ji44) : Int).toNat) := ⟨_, rfl⟩
                          replace H : ((footwayref06_Back.f kj24 y267).bind fun t272 => ((footwayref06_Same.f kj24 t253 t272).bind fun t275 => (if t275 = true then (footwaylaw06_LruTells.j2 kj24 t237 a1 t240 t241 t246 t247) else (some false)))) = some r := by first | (rw [hy267]; with_reducible exact H) | (have H2_ := (Option.bind_some _ _).symm.trans H; rw [hy267]; with_reducible exact H2_) | (have H2_ := (Option.bind_some _ _).symm.trans H; with_reducible exact H2_) | with_reducible exact H | (rw [hy267]; exact H) | exact H
                          have Ny267 := Aside0.mk hy267
                          clear hy267
                          replace H := Option.bind_eq_some_iff.mp H
                          obtain ⟨t272, A520, H⟩ := H
                          replace H : ((footwayref06_Same.f kj24 t253 t272).bind fun t275 => (if t275 = true then (footwaylaw06_LruTells.j2 kj24 t237 a1 t240 t241 t246 t247) else (some false))) = some r := H
                          have A52 := Aside0.mk A520
                          clear A520
                          replace H := Option.bind_eq_some_iff.mp H
                          obtain ⟨t275, A530, H⟩ := H
                          replace H : (if t275 = true then (footwaylaw06_LruTells.j2 kj24 t237 a1 t240 t241 t246 t247) else (some false)) = some r := H
                          have A53 := Aside0.mk A530
                          clear A530
                          by_cases c54 : t275 = true
                          · subst c54
                            have H1 : (footwaylaw06_LruTells.j2 kj24 t237 a1 t240 t241 t246 t247) = some r := by rw [if_pos rfl] at H; exact H
                            clear H
                            have H := H1
                            clear H1
                            have H' := Aside0.mk H
                            clear H
                            have q55 : ((ji44) : Int) ≤ ((t237.length : Int) : Int) := of_decide_eq_true (by first | (with_reducible assumption) | assumption)
                            obtain ⟨i055, hi055, _, hsz55, _⟩ := info_parts info3
                            have hroom55 : t237.length ≤ co12 := (Kd.V_reads' HO_0.out).2.1
                            have hC55 : Kd.F (Kd.int .i64) _ _ Ao12 t237.length t237 := (Kd.V_at (base := w.heap.size) HO_0.out).2.2
                            have hcut55 := cut_to (P := Try.prog) 22 3 .i64 Try.underlying22 hi055 Ao12 t237.length co12 (ji44) (of_decide_eq_true (by first | (with_reducible assumption) | assumption)) q55 hroom55
                            have hr55 := Kd.F_take (m := ((ji44) : Int).toNat) hC55 (by omega)
                            have hy55 : y261.length = ((ji44) : Int).toNat := (by rw [Ny261.out, List.length_take]; omega)
                            rw [← Ny261.out] at hr55
                            rw [← hy55] at hcut55
                            have HO265 := Aside0.mk (show Kd.V (Kd.int .i64) 3 _ w.heap.size _ (.slice Ao12 y261.length co12) y261 from Kd.V_mk (by omega) hr55)
                            have HC265 := Aside0.mk (show y261.length ≤ co12 from by omega)
                            clear hr55 hC55 hroom55 hi055 hsz55
                            have KY55 := Aside0.mk hy55
                            clear hy55
                            replace q55 := eq_true q55
                            obtain ⟨Ao56, co56, eo56⟩ := Kd.V_slice HO_13.out
                            subst eo56
                            go_wp2_with (first | (go_at_call 16; (with_reducible refine (footwayref06_Same.calls kj24 _ _ t250 _ _ y261 true _ ?side1 ?side2 ?side3 ?side4 A48.out).mono ?_); (case side1 => repeat (first | exact (Kd.V_reads' HO_13.out).2.2 | (with_reducible refine Kd.C_alloc ?_ _) | (with_reducible refine Kd.C_drewN ?_ _) | (with_reducible refine Kd.C_drew ?_))); (case side2 => exact (Kd.V_reads' HO_13.out).2.1); (case side3 => repeat (first | exact (Kd.V_reads' HO265.out).2.2 | (with_reducible refine Kd.C_alloc ?_ _) | (with_reducible refine Kd.C_drewN ?_ _) | (with_reducible refine Kd.C_drew ?_))); (case side4 => exact (Kd.V_reads' HO265.out).2.1); rintro e w' ⟨rfl, ⟨nd, rfl⟩⟩; have q57 : ((ji44) : Int) ≤ ((t237.length : Int) : Int) := of_decide_eq_true (by first | (with_reducible assumption) | assumption); obtain ⟨i057, hi057, _, hsz57, _⟩ := info_parts info3; have hroom57 : t237.length ≤ co12 := (Kd.V_reads' HO_0.out).2.1; have hC57 : Kd.F (Kd.int .i64) _ _ Ao12 t237.length t237 := (Kd.V_at (base := w.heap.size) HO_0.out).2.2; have q057 : (0 : Int) ≤ ((ji44) : Int) := of_decide_eq_true (by first | (with_reducible assumption) | assumption); have hcut57 := cut_from (P := Try.prog) 22 3 .i64 Try.underlying22 hi057 1 hsz57 Ao12 t237.length co12 (ji44) q057 q57; have hr57 := Kd.F_cut (m := ((ji44) : Int).toNat) (c := co12) hC57 (by omega) hroom57; obtain ⟨A57, hA57⟩ : ∃ A1, A1 = (if co12 = ((ji44) : Int).toNat then Ao12 else (Ao12 : Option Addr).map (·.add (((ji44) : Int).toNat * 1))) := ⟨_, rfl⟩; obtain ⟨c57, hc57⟩ : ∃ c1, c1 = co12 - ((ji44) : Int).toNat := ⟨_, rfl⟩; have hy57 : y267.length = t237.length - ((ji44) : Int).toNat := (by rw [Ny267.out, List.length_drop] <;> omega); rw [show (t237).drop ((ji44) : Int).toNat = y267 from Ny267.out.symm] at hr57; replace hr57 : Kd.F (Kd.int .i64) _ _ A57 y267.length y267 := (by rw [hA57]; exact hr57); rw [← hy57, ← hA57, ← hc57] at hcut57; have HO271 := Aside0.mk (show Kd.V (Kd.int .i64) 3 _ w.heap.size _ (.slice A57 y267.length c57) y267 from Kd.V_mk (by rw [hy57, hc57]; exact Nat.sub_le_sub_right hroom57 _) hr57); have HC271 := Aside0.mk (show y267.length ≤ c57 from by rw [hy57, hc57]; exact Nat.sub_le_sub_right hroom57 _); clear hr57 hC57 hroom57 hi057 hsz57 hc57; have KY57 := Aside0.mk hy57; have KA57 := Aside0.mk hA57; clear hy57 hA57; replace q57 := eq_true q57) | (go_at_call 44; (with_reducible refine (footwayref06_Back.calls kj24 _ _ y267 t272 _ ?side1 ?side2 A52.out).mono ?_); (case side1 => repeat (first | exact (Kd.V_reads' HO271.out).2.2 | (with_reducible refine Kd.C_alloc ?_ _) | (with_reducible refine Kd.C_drewN ?_ _) | (with_reducible refine Kd.C_drew ?_))); (case side2 => exact (Kd.V_reads' HO271.out).2.1); rintro e w58 ⟨v273, rfl, ho0, hb⟩; have n0_ := Aside0.mk (Kd.V_elder' (by (with_reducible repeat (first | apply Kd.V_alloc | apply Kd.V_drewN | apply Kd.V_drew)); exact HO_0.out) (Kd.R_base ho0) hb); have n1_ := Aside0.mk (Kd.R_elder' (by (with_reducible repeat (first | apply Kd.R_alloc | apply Kd.R_drewN | apply Kd.R_drew)); exact HO_7.out) (Kd.R_base ho0) hb); have n2_ := Aside0.mk (Kd.R_elder' (by (with_reducible repeat (first | apply Kd.R_alloc | apply Kd.R_drewN | apply Kd.R_drew)); exact HO_11.out) (Kd.R_base ho0) hb); have n3_ := Aside0.mk (Kd.V_elder' (by (with_reducible repeat (first | apply Kd.V_alloc | apply Kd.V_drewN | apply Kd.V_drew)); exact HO_13.out) (Kd.R_base ho0) hb); have n4_ := Aside0.mk (Kd.R_elder' (by (with_reducible repeat (first | apply Kd.R_alloc | apply Kd.R_drewN | apply Kd.R_drew)); exact HO_14.out) (Kd.R_base ho0) hb); have n5_ := Aside0.mk (Kd.V_elder' (by (with_reducible repeat (first | apply Kd.V_alloc | apply Kd.V_drewN | apply Kd.V_drew)); exact HO265.out) (Kd.R_base ho0) hb); have n6_ := Aside0.mk (Kd.V_elder' (by (with_reducible repeat (first | apply Kd.V_alloc | apply Kd.V_drewN | apply Kd.V_drew)); exact HO271.out) (Kd.R_base ho0) hb); have n7_ := Aside0.mk (Kd.R_lower (Kd.R_new' (Kd.R_new' (Kd.R_new' ho0 (Kd.R_lt (by (with_reducible repeat (first | apply Kd.R_alloc | apply Kd.R_drewN | apply Kd.R_drew)); exact HO_7.out))) (Kd.R_lt (by (with_reducible repeat (first | apply Kd.R_alloc | apply Kd.R_drewN | apply Kd.R_drew)); exact HO_11.out))) (Kd.R_lt (by (with_reducible repeat (first | apply Kd.R_alloc | apply Kd.R_drewN | apply Kd.R_drew)); exact HO_14.out))) (below_size (by repeat (first | (with_reducible first | exact HB.out | apply below_alloc | apply pw_below_drewN | apply below_drew1) | exact HB.out)))); have n8_ := Aside0.mk (below_step (by repeat (first | (with_reducible first | exact HB.out | apply below_alloc | apply pw_below_drewN | apply below_drew1) | exact HB.out)) hb); clear HO_0; clear HO_7; clear HO_11; clear HO_13; clear HO_14; clear HO265; clear HO271; clear HB; have HO_0 := n0_; have HO_7 := n1_; have HO_11 := n2_; have HO_13 := n3_; have HO_14 := n4_; have HO265 := n5_; have HO271 := n6_; have HO274 := n7_; have HB := n8_; clear n0_ n1_ n2_ n3_ n4_ n5_ n6_ n7_ n8_; (try clear hb); (try clear hb2); (try clear hk); (try clear hi); (try clear ho0); obtain ⟨Ao59, co59, eo59⟩ := Kd.R_slice HO_14.out; subst eo59; obtain ⟨Ao60, co60, eo60⟩ := Kd.R_slice HO274.out; subst eo60) | (go_at_call 16; (with_reducible refine (footwayref06_Same.calls kj24 _ _ t253 _ _ t272 true _ ?side1 ?side2 ?side3 ?side4 A53.out).mono ?_); (case side1 => repeat (first | exact (Kd.R_reads' HO_14.out).2.2 | (with_reducible refine Kd.C_alloc ?_ _) | (with_reducible refine Kd.C_drewN ?_ _) | (with_reducible refine Kd.C_drew ?_))); (case side2 => exact (Kd.R_reads' HO_14.out).2.1); (case side3 => repeat (first | exact (Kd.R_reads' HO274.out).2.2 | (with_reducible refine Kd.C_alloc ?_ _) | (with_reducible refine Kd.C_drewN ?_ _) | (with_reducible refine Kd.C_drew ?_))); (case side4 => exact (Kd.R_reads' HO274.out).2.1); rintro e w' ⟨rfl, ⟨nd, rfl⟩⟩))
                            go_meet
                            case rel => exact ⟨_, H', ⟨by have := HJ9.out; have := HJ24.out; first | omega | exact Nat.le_refl _⟩, ⟨by (with_reducible repeat (first | apply Kd.V_alloc | apply Kd.V_drewN | apply Kd.V_drew)); exact Kd.V_mono HO_0.out (fun _ hk => ⟨hk.1.1, hk.1.2.1⟩)⟩, ⟨by (with_reducible repeat (first | apply Kd.R_alloc | apply Kd.R_drewN | apply Kd.R_drew)); exact Kd.R_mono HO_7.out (fun _ hk => hk.1.1)⟩, ⟨by (with_reducible repeat (first | apply Kd.R_alloc | apply Kd.R_drewN | apply Kd.R_drew)); exact Kd.R_mono HO_11.out (fun _ hk => hk.1.1)⟩, ⟨by repeat (first | (with_reducible first | exact HB.out | apply below_alloc | apply pw_below_drewN | apply below_drew1) | exact HB.out)⟩⟩
                          · replace c54 := Bool.eq_false_iff.mpr c54
                            subst c54
                            have H1 : (some false) = some r := by rw [if_neg (show ¬ (false = true) by decide)] at H; exact H
                            clear H
                            have H := H1
                            clear H1
                            obtain rfl := Option.some.inj H
                            have q61 : ((ji44) : Int) ≤ ((t237.length : Int) : Int) := of_decide_eq_true (by first | (with_reducible assumption) | assumption)
                            obtain ⟨i061, hi061, _, hsz61, _⟩ := info_parts info3
                            have hroom61 : t237.length ≤ co12 := (Kd.V_reads' HO_0.out).2.1
                            have hC61 : Kd.F (Kd.int .i64) _ _ Ao12 t237.length t237 := (Kd.V_at (base := w.heap.size) HO_0.out).2.2
                            have hcut61 := cut_to (P := Try.prog) 22 3 .i64 Try.underlying22 hi061 Ao12 t237.length co12 (ji44) (of_decide_eq_true (by first | (with_reducible assumption) | assumption)) q61 hroom61
                            have hr61 := Kd.F_take (m := ((ji44) : Int).toNat) hC61 (by omega)
                            have hy61 : y261.length = ((ji44) : Int).toNat := (by rw [Ny261.out, List.length_take]; omega)
                            rw [← Ny261.out] at hr61
                            rw [← hy61] at hcut61
                            have HO265 := Aside0.mk (show Kd.V (Kd.int .i64) 3 _ w.heap.size _ (.slice Ao12 y261.length co12) y261 from Kd.V_mk (by omega) hr61)
                            have HC265 := Aside0.mk (show y261.length ≤ co12 from by omega)
                            clear hr61 hC61 hroom61 hi061 hsz61
                            have KY61 := Aside0.mk hy61
                            clear hy61
                            replace q61 := eq_true q61
                            obtain ⟨Ao62, co62, eo62⟩ := Kd.V_slice HO_13.out
                            subst eo62
                            go_wp2_with (first | (go_at_call 16; (with_reducible refine (footwayref06_Same.calls kj24 _ _ t250 _ _ y261 true _ ?side1 ?side2 ?side3 ?side4 A48.out).mono ?_); (case side1 => repeat (first | exact (Kd.V_reads' HO_13.out).2.2 | (with_reducible refine Kd.C_alloc ?_ _) | (with_reducible refine Kd.C_drewN ?_ _) | (with_reducible refine Kd.C_drew ?_))); (case side2 => exact (Kd.V_reads' HO_13.out).2.1); (case side3 => repeat (first | exact (Kd.V_reads' HO265.out).2.2 | (with_reducible refine Kd.C_alloc ?_ _) | (with_reducible refine Kd.C_drewN ?_ _) | (with_reducible refine Kd.C_drew ?_))); (case side4 => exact (Kd.V_reads' HO265.out).2.1); rintro e w' ⟨rfl, ⟨nd, rfl⟩⟩; have q63 : ((ji44) : Int) ≤ ((t237.length : Int) : Int) := of_decide_eq_true (by first | (with_reducible assumption) | assumption); obtain ⟨i063, hi063, _, hsz63, _⟩ := info_parts info3; have hroom63 : t237.length ≤ co12 := (Kd.V_reads' HO_0.out).2.1; have hC63 : Kd.F (Kd.int .i64) _ _ Ao12 t237.length t237 := (Kd.V_at (base := w.heap.size) HO_0.out).2.2; have q063 : (0 : Int) ≤ ((ji44) : Int) := of_decide_eq_true (by first | (with_reducible assumption) | assumption); have hcut63 := cut_from (P := Try.prog) 22 3 .i64 Try.underlying22 hi063 1 hsz63 Ao12 t237.length co12 (ji44) q063 q63; have hr63 := Kd.F_cut (m := ((ji44) : Int).toNat) (c := co12) hC63 (by omega) hroom63; obtain ⟨A63, hA63⟩ : ∃ A1, A1 = (if co12 = ((ji44) : Int).toNat then Ao12 else (Ao12 : Option Addr).map (·.add (((ji44) : Int).toNat * 1))) := ⟨_, rfl⟩; obtain ⟨c63, hc63⟩ : ∃ c1, c1 = co12 - ((ji44) : Int).toNat := ⟨_, rfl⟩; have hy63 : y267.length = t237.length - ((ji44) : Int).toNat := (by rw [Ny267.out, List.length_drop] <;> omega); rw [show (t237).drop ((ji44) : Int).toNat = y267 from Ny267.out.symm] at hr63; replace hr63 : Kd.F (Kd.int .i64) _ _ A63 y267.length y267 := (by rw [hA63]; exact hr63); rw [← hy63, ← hA63, ← hc63] at hcut63; have HO271 := Aside0.mk (show Kd.V (Kd.int .i64) 3 _ w.heap.size _ (.slice A63 y267.length c63) y267 from Kd.V_mk (by rw [hy63, hc63]; exact Nat.sub_le_sub_right hroom63 _) hr63); have HC271 := Aside0.mk (show y267.length ≤ c63 from by rw [hy63, hc63]; exact Nat.sub_le_sub_right hroom63 _); clear hr63 hC63 hroom63 hi063 hsz63 hc63; have KY63 := Aside0.mk hy63; have KA63 := Aside0.mk hA63; clear hy63 hA63; replace q63 := eq_true q63) | (go_at_call 44; (with_reducible refine (footwayref06_Back.calls kj24 _ _ y267 t272 _ ?side1 ?side2 A52.out).mono ?_); (case side1 => repeat (first | exact (Kd.V_reads' HO271.out).2.2 | (with_reducible refine Kd.C_alloc ?_ _) | (with_reducible refine Kd.C_drewN ?_ _) | (with_reducible refine Kd.C_drew ?_))); (case side2 => exact (Kd.V_reads' HO271.out).2.1); rintro e w64 ⟨v273, rfl, ho0, hb⟩; have n0_ := Aside0.mk (Kd.V_elder' (by (with_reducible repeat (first | apply Kd.V_alloc | apply Kd.V_drewN | apply Kd.V_drew)); exact HO_0.out) (Kd.R_base ho0) hb); have n1_ := Aside0.mk (Kd.R_elder' (by (with_reducible repeat (first | apply Kd.R_alloc | apply Kd.R_drewN | apply Kd.R_drew)); exact HO_7.out) (Kd.R_base ho0) hb); have n2_ := Aside0.mk (Kd.R_elder' (by (with_reducible repeat (first | apply Kd.R_alloc | apply Kd.R_drewN | apply Kd.R_drew)); exact HO_11.out) (Kd.R_base ho0) hb); have n3_ := Aside0.mk (Kd.V_elder' (by (with_reducible repeat (first | apply Kd.V_alloc | apply Kd.V_drewN | apply Kd.V_drew)); exact HO_13.out) (Kd.R_base ho0) hb); have n4_ := Aside0.mk (Kd.R_elder' (by (with_reducible repeat (first | apply Kd.R_alloc | apply Kd.R_drewN | apply Kd.R_drew)); exact HO_14.out) (Kd.R_base ho0) hb); have n5_ := Aside0.mk (Kd.V_elder' (by (with_reducible repeat (first | apply Kd.V_alloc | apply Kd.V_drewN | apply Kd.V_drew)); exact HO265.out) (Kd.R_base ho0) hb); have n6_ := Aside0.mk (Kd.V_elder' (by (with_reducible repeat (first | apply Kd.V_alloc | apply Kd.V_drewN | apply Kd.V_drew)); exact HO271.out) (Kd.R_base ho0) hb); have n7_ := Aside0.mk (Kd.R_lower (Kd.R_new' (Kd.R_new' (Kd.R_new' ho0 (Kd.R_lt (by (with_reducible repeat (first | apply Kd.R_alloc | apply Kd.R_drewN | apply Kd.R_drew)); exact HO_7.out))) (Kd.R_lt (by (with_reducible repeat (first | apply Kd.R_alloc | apply Kd.R_drewN | apply Kd.R_drew)); exact HO_11.out))) (Kd.R_lt (by (with_reducible repeat (first | apply Kd.R_alloc | apply Kd.R_drewN | apply Kd.R_drew)); exact HO_14.out))) (below_size (by repeat (first | (with_reducible first | exact HB.out | apply below_alloc | apply pw_below_drewN | apply below_drew1) | exact HB.out)))); have n8_ := Aside0.mk (below_step (by repeat (first | (with_reducible first | exact HB.out | apply below_alloc | apply pw_below_drewN | apply below_drew1) | exact HB.out)) hb); clear HO_0; clear HO_7; clear HO_11; clear HO_13; clear HO_14; clear HO265; clear HO271; clear HB; have HO_0 := n0_; have HO_7 := n1_; have HO_11 := n2_; have HO_13 := n3_; have HO_14 := n4_; have HO265 := n5_; have HO271 := n6_; have HO274 := n7_; have HB := n8_; clear n0_ n1_ n2_ n3_ n4_ n5_ n6_ n7_ n8_; (try clear hb); (try clear hb2); (try clear hk); (try clear hi); (try clear ho0); obtain ⟨Ao65, co65, eo65⟩ := Kd.R_slice HO_14.out; subst eo65; obtain ⟨Ao66, co66, eo66⟩ := Kd.R_slice HO274.out; subst eo66) | (go_at_call 16; (with_reducible refine (footwayref06_Same.calls kj24 _ _ t253 _ _ t272 false _ ?side1 ?side2 ?side3 ?side4 A53.out).mono ?_); (case side1 => repeat (first | exact (Kd.R_reads' HO_14.out).2.2 | (with_reducible refine Kd.C_alloc ?_ _) | (with_reducible refine Kd.C_drewN ?_ _) | (with_reducible refine Kd.C_drew ?_))); (case side2 => exact (Kd.R_reads' HO_14.out).2.1); (case side3 => repeat (first | exact (Kd.R_reads' HO274.out).2.2 | (with_reducible refine Kd.C_alloc ?_ _) | (with_reducible refine Kd.C_drewN ?_ _) | (with_reducible refine Kd.C_drew ?_))); (case side4 => exact (Kd.R_reads' HO274.out).2.1); rintro e w' ⟨rfl, ⟨nd, rfl⟩⟩))
                            go_ret
                            exact ⟨by first | rfl | (simp [errW_none, errW_some] <;> rfl) | (simp only [← hji44]; first | rfl | (simp [errW_none, errW_some] <;> rfl)) | (simp [*, errW_none, errW_some] <;> rfl), by repeat (first | (with_reducible first | exact HB.out | apply below_alloc | apply pw_below_drewN | apply below_drew1) | exact HB.out)⟩
                        · replace c49 := Bool.eq_false_iff.mpr c49
                          subst c49
                          have H1 : (some false) = some r := by rw [if_neg (show ¬ (false = true) by decide)] at H; exact H
                          clear H
                          have H := H1
                          clear H1
                          obtain rfl := Option.some.inj H
                          have q67 : ((ji44) : Int) ≤ ((t237.length : Int) : Int) := of_decide_eq_true (by first | (with_reducible assumption) | assumption)
                          obtain ⟨i067, hi067, _, hsz67, _⟩ := info_parts info3
                          have hroom67 : t237.length ≤ co12 := (Kd.V_reads' HO_0.out).2.1
                          have hC67 : Kd.F (Kd.int .i64) _ _ Ao12 t237.length t237 := (Kd.V_at (base := w.heap.size) HO_0.out).2.2
                          have hcut67 := cut_to (P := Try.prog) 22 3 .i64 Try.underlying22 hi067 Ao12 t237.length co12 (ji44) (of_decide_eq_true (by first | (with_reducible assumption) | assumption)) q67 hroom67
                          have hr67 := Kd.F_take (m := ((ji44) : Int).toNat) hC67 (by omega)
                          have hy67 : y261.length = ((ji44) : Int).toNat := (by rw [Ny261.out, List.length_take]; omega)
                          rw [← Ny261.out] at hr67
                          rw [← hy67] at hcut67
                          have HO265 := Aside0.mk (show Kd.V (Kd.int .i64) 3 _ w.heap.size _ (.slice Ao12 y261.length co12) y261 from Kd.V_mk (by omega) hr67)
                          have HC265 := Aside0.mk (show y261.length ≤ co12 from by omega)
                          clear hr67 hC67 hroom67 hi067 hsz67
                          have KY67 := Aside0.mk hy67
                          clear hy67
                          replace q67 := eq_true q67
                          obtain ⟨Ao68, co68, eo68⟩ := Kd.V_slice HO_13.out
                          subst eo68
                          go_wp2_with (first | (go_at_call 16; (with_reducible refine (footwayref06_Same.calls kj24 _ _ t250 _ _ y261 false _ ?side1 ?side2 ?side3 ?side4 A48.out).mono ?_); (case side1 => repeat (first | exact (Kd.V_reads' HO_13.out).2.2 | (with_reducible refine Kd.C_alloc ?_ _) | (with_reducible refine Kd.C_drewN ?_ _) | (with_reducible refine Kd.C_drew ?_))); (case side2 => exact (Kd.V_reads' HO_13.out).2.1); (case side3 => repeat (first | exact (Kd.V_reads' HO265.out).2.2 | (with_reducible refine Kd.C_alloc ?_ _) | (with_reducible refine Kd.C_drewN ?_ _) | (with_reducible refine Kd.C_drew ?_))); (case side4 => exact (Kd.V_reads' HO265.out).2.1); rintro e w' ⟨rfl, ⟨nd, rfl⟩⟩))
                          go_ret
                          exact ⟨by first | rfl | (simp [errW_none, errW_some] <;> rfl) | (simp only [← hji44]; first | rfl | (simp [errW_none, errW_some] <;> rfl)) | (simp [*, errW_none, errW_some] <;> rfl), by repeat (first | (with_reducible first | exact HB.out | apply below_alloc | apply pw_below_drewN | apply below_drew1) | exact HB.out)⟩
                      · rw [if_neg c47] at H
                        exact absurd H (by simp)
                    · rw [if_neg c46] at H
                      exact absurd H (by simp)
                  · rw [if_neg c45] at H
                    have c45b0 : (t256 == 0) = false := beq_eq_false_iff_ne.mpr c45
                    have c45b1 : (t256 != 0) = true := bne_iff_ne.mpr c45
                    obtain rfl := Option.some.inj H
                    go_wp2
                    go_ret
                    exact ⟨by first | rfl | (simp [errW_none, errW_some] <;> rfl) | (simp only [← hji44]; first | rfl | (simp [errW_none, errW_some] <;> rfl)) | (simp [*, errW_none, errW_some] <;> rfl), by repeat (first | (with_reducible first | exact HB.out | apply below_alloc | apply pw_below_drewN | apply below_drew1) | exact HB.out)⟩
              case rest => as_aux_lemma =>
                clear HC34
                try clear c1
                try clear c2
                try clear p2
                try clear q2
                try clear hx2
                try clear c3
                try clear c4
                try clear c5
                try clear q5
                try clear c6
                try clear p6
                try clear q6
                try clear c11
                try clear c12
                try clear c13
                try clear c15
                try clear c18
                try clear c18b0
                try clear c18b1
                try clear c18b2
                try clear c19
                try clear c23
                try clear c24
                try clear c26
                try clear c26b0
                try clear c26b1
                try clear c26b2
                try clear p26
                try clear q26
                try clear hx26
                try clear c27
                try clear c27b0
                try clear c27b1
                try clear c28
                try clear c28b0
                try clear c28b1
                try clear c29
                try clear c29b0
                try clear c29b1
                try clear c31
                try clear c31b0
                try clear c32
                try clear c32b0
                try clear c33
                try clear c33b0
                try clear c33b1
                try clear c35
                try clear c35b0
                try clear c36
                try clear c36b0
                try clear c36b1
                try clear c37
                try clear c37b0
                try clear c37b1
                try clear c37b2
                try clear c38
                try clear c38b0
                try clear c38b1
                try clear c38b2
                try clear c43
                try clear c45
                try clear c45b0
                try clear c45b1
                try clear c46
                try clear c46b0
                try clear c46b1
                try clear c47
                try clear c47b0
                try clear c47b1
                try clear c49
                try clear c50
                try clear c50b0
                try clear c51
                try clear c51b0
                try clear c54
                try clear q55
                try clear c57
                try clear q57
                try clear q61
                try clear c63
                try clear q63
                try clear p64
                try clear q67
                try clear hx260_0
                try clear p2
                try clear p26
                try clear p260
                try clear p6
                try clear q057
                try clear q063
                try clear q2
                try clear q26
                try clear q260
                try clear q55
                try clear q57
                try clear q61
                try clear q63
                try clear q67
                obtain ⟨kq, HA, HJ33, HO_0, HO_7, HO_11, HB⟩ := hcut
                cases kq with
                | zero => exact absurd HA.out (by simp [footwaylaw06_LruTells.j2])
                | succ kj33 =>
                  have H := HA.out
                  clear HA
                  simp only [footwaylaw06_LruTells.j2] at H
                  by_cases c69 : a1 < 0
                  · rw [if_pos c69] at H
                    have c69b0 : decide (a1 < 0) = true := decide_eq_true c69
                    clear c69
                    by_cases c70 : t241 = 1
                    · rw [if_pos c70] at H
                      have c70b0 : (t241 == 1) = true := beq_iff_eq.mpr c70
                      have c70b1 : (t241 != 1) = false := bne_eq_false_iff_eq.mpr c70
                      clear c70
                      by_cases c71 : t247 = 1
                      · rw [if_pos c71] at H
                        have c71b0 : (t247 == 1) = true := beq_iff_eq.mpr c71
                        have c71b1 : (t247 != 1) = false := bne_eq_false_iff_eq.mpr c71
                        clear c71
                        by_cases c72 : (t240.length : Int) = 0
                        · rw [if_pos c72] at H
                          have c72b0 : ((t240.length : Int) == 0) = true := beq_iff_eq.mpr c72
                          have c72b1 : ((t240.length : Int) != 0) = false := bne_eq_false_iff_eq.mpr c72
                          clear c72
                          obtain rfl := Option.some.inj H
                          obtain ⟨Ao73, co73, eo73⟩ := Kd.R_slice HO_7.out
                          subst eo73
                          obtain ⟨Ao74, co74, eo74⟩ := Kd.R_slice HO_11.out
                          subst eo74
                          go_wp2
                          go_ret
                          exact ⟨by first | rfl | (simp [errW_none, errW_some] <;> rfl) | (simp [*, errW_none, errW_some] <;> rfl), by repeat (first | (with_reducible first | exact HB.out | apply below_alloc | apply pw_below_drewN | apply below_drew1) | exact HB.out)⟩
                        · rw [if_neg c72] at H
                          have c72b0 : ((t240.length : Int) == 0) = false := beq_eq_false_iff_ne.mpr c72
                          have c72b1 : ((t240.length : Int) != 0) = true := bne_iff_ne.mpr c72
                          have c72b2 : ¬ (t240 = []) := fun h_ => c72 (by rw [h_]; rfl)
                          obtain rfl := Option.some.inj H
                          obtain ⟨Ao75, co75, eo75⟩ := Kd.R_slice HO_7.out
                          subst eo75
                          go_wp2
                          go_ret
                          exact ⟨by first | rfl | (simp [errW_none, errW_some] <;> rfl) | (simp [*, errW_none, errW_some] <;> rfl), by repeat (first | (with_reducible first | exact HB.out | apply below_alloc | apply pw_below_drewN | apply below_drew1) | exact HB.out)⟩
                      · rw [if_neg c71] at H
                        have c71b0 : (t247 == 1) = false := beq_eq_false_iff_ne.mpr c71
                        have c71b1 : (t247 != 1) = true := bne_iff_ne.mpr c71
                        obtain rfl := Option.some.inj H
                        go_wp2
                        go_ret
                        exact ⟨by first | rfl | (simp [errW_none, errW_some] <;> rfl) | (simp [*, errW_none, errW_some] <;> rfl), by repeat (first | (with_reducible first | exact HB.out | apply below_alloc | apply pw_below_drewN | apply below_drew1) | exact HB.out)⟩
                    · rw [if_neg c70] at H
                      have c70b0 : (t241 == 1) = false := beq_eq_false_iff_ne.mpr c70
                      have c70b1 : (t241 != 1) = true := bne_iff_ne.mpr c70
                      obtain rfl := Option.some.inj H
                      go_wp2
                      go_ret
                      exact ⟨by first | rfl | (simp [errW_none, errW_some] <;> rfl) | (simp [*, errW_none, errW_some] <;> rfl), by repeat (first | (with_reducible first | exact HB.out | apply below_alloc | apply pw_below_drewN | apply below_drew1) | exact HB.out)⟩
                  · rw [if_neg c69] at H
                    have c69b0 : decide (a1 < 0) = false := decide_eq_false c69
                    clear c69
                    replace H := Option.bind_eq_some_iff.mp H
                    obtain ⟨t276, A760, H⟩ := H
                    replace H : (if t276 = true then (if t247 = 0 then ((footwayref06_Without.f kj33 t237 a1).bind fun t277 => ((footwayref06_Same.f kj33 t246 t277).bind fun t280 => (if t280 = true then (footwaylaw06_LruTells.j3 kj33 t237 a1 t240 t241) else (some false)))) else (some false)) else (if t247 = 4 then (if (t246.length : Int) = 0 then (footwaylaw06_LruTells.j3 kj33 t237 a1 t240 t241) else (some false)) else (some false))) = some r := H
                    have A76 := Aside0.mk A760
                    clear A760
                    have HC77 := Aside0.mk H
                    clear H
                    go_upto_if 174 with (first | ((with_reducible refine gate_callee (f := 18) rfl ?_); refine goesL_ (some 173) rfl rfl Try.func18 (by kernel_rfl) rfl #[.slice Ao12 t237.length co12, .int .i64 a1] rfl (by (try simp only [List.map_toArray, List.map_cons, List.map_nil]); first | done | rfl | (simp only [List.length_drop, List.length_take]; rfl)) ?_; (with_reducible refine (footwayref06_Has.calls kj33 _ _ t237 a1 t276 _ ?side1 ?side2 A76.out).mono ?_); (case side1 => repeat (first | exact (Kd.V_reads' HO_0.out).2.2 | (with_reducible refine Kd.C_alloc ?_ _) | (with_reducible refine Kd.C_drewN ?_ _) | (with_reducible refine Kd.C_drew ?_))); (case side2 => exact (Kd.V_reads' HO_0.out).2.1); rintro e w' ⟨rfl, ⟨nd, rfl⟩⟩; refine ⟨_, rfl, ?_⟩))
                    (try simp only [Act.put, List.setIfInBounds_toArray, List.set_cons_zero, List.set_cons_succ])
                    go_cut [] (fun wc => ∃ (kq : Nat), Aside0 (footwaylaw06_LruTells.j3 kq t237 a1 t240 t241 = some r) ∧ Aside0 (kq ≤ kj33) ∧ Aside0 (Kd.V (Kd.int .i64) 3 wc w.heap.size (fun k_ => some k_ ≠ (v242 : Value).ownBlock) (.slice Ao12 t237.length co12) t237) ∧ Aside0 (Kd.R (Kd.int .i64) 3 wc w.heap.size (fun _ => True) v242 t240) ∧ Aside0 (Below w.heap.size w wc))
                    case first => as_aux_lemma =>
                      have H := HC77.out
                      clear HC77
                      by_cases c78 : t276 = true
                      · subst c78
                        have H1 : (if t247 = 0 then ((footwayref06_Without.f kj33 t237 a1).bind fun t277 => ((footwayref06_Same.f kj33 t246 t277).bind fun t280 => (if t280 = true then (footwaylaw06_LruTells.j3 kj33 t237 a1 t240 t241) else (some false)))) else (some false)) = some r := by rw [if_pos rfl] at H; exact H
                        clear H
                        have H := H1
                        clear H1
                        by_cases c79 : t247 = 0
                        · rw [if_pos c79] at H
                          have c79b0 : (t247 == 0) = true := beq_iff_eq.mpr c79
                          have c79b1 : (t247 != 0) = false := bne_eq_false_iff_eq.mpr c79
                          clear c79
                          (first | rw [c79b0] | (simp only [i64_w, i32_w]; rw [c79b0]) | skip)
                          replace H := Option.bind_eq_some_iff.mp H
                          obtain ⟨t277, A800, H⟩ := H
                          replace H : ((footwayref06_Same.f kj33 t246 t277).bind fun t280 => (if t280 = true then (footwaylaw06_LruTells.j3 kj33 t237 a1 t240 t241) else (some false))) = some r := H
                          have A80 := Aside0.mk A800
                          clear A800
                          replace H := Option.bind_eq_some_iff.mp H
                          obtain ⟨t280, A810, H⟩ := H
                          replace H : (if t280 = true then (footwaylaw06_LruTells.j3 kj33 t237 a1 t240 t241) else (some false)) = some r := H
                          have A81 := Aside0.mk A810
                          clear A810
                          by_cases c82 : t280 = true
                          · subst c82
                            have H1 : (footwaylaw06_LruTells.j3 kj33 t237 a1 t240 t241) = some r := by rw [if_pos rfl] at H; exact H
                            clear H
                            have H := H1
                            clear H1
                            have H' := Aside0.mk H
                            clear H
                            go_wp2_with (first | (go_at_call 36; (with_reducible refine (footwayref06_Without.calls kj33 _ _ t237 a1 t277 _ ?side1 ?side2 A80.out).mono ?_); (case side1 => repeat (first | exact (Kd.V_reads' HO_0.out).2.2 | (with_reducible refine Kd.C_alloc ?_ _) | (with_reducible refine Kd.C_drewN ?_ _) | (with_reducible refine Kd.C_drew ?_))); (case side2 => exact (Kd.V_reads' HO_0.out).2.1); rintro e w83 ⟨v278, rfl, ho0, hb⟩; have n0_ := Aside0.mk (Kd.V_elder' (by (with_reducible repeat (first | apply Kd.V_alloc | apply Kd.V_drewN | apply Kd.V_drew)); exact HO_0.out) (Kd.R_base ho0) hb); have n1_ := Aside0.mk (Kd.R_elder' (by (with_reducible repeat (first | apply Kd.R_alloc | apply Kd.R_drewN | apply Kd.R_drew)); exact HO_7.out) (Kd.R_base ho0) hb); have n2_ := Aside0.mk (Kd.R_elder' (by (with_reducible repeat (first | apply Kd.R_alloc | apply Kd.R_drewN | apply Kd.R_drew)); exact HO_11.out) (Kd.R_base ho0) hb); have n3_ := Aside0.mk (Kd.R_lower (Kd.R_new' (Kd.R_new' ho0 (Kd.R_lt (by (with_reducible repeat (first | apply Kd.R_alloc | apply Kd.R_drewN | apply Kd.R_drew)); exact HO_7.out))) (Kd.R_lt (by (with_reducible repeat (first | apply Kd.R_alloc | apply Kd.R_drewN | apply Kd.R_drew)); exact HO_11.out))) (below_size (by repeat (first | (with_reducible first | exact HB.out | apply below_alloc | apply pw_below_drewN | apply below_drew1) | exact HB.out)))); have n4_ := Aside0.mk (below_step (by repeat (first | (with_reducible first | exact HB.out | apply below_alloc | apply pw_below_drewN | apply below_drew1) | exact HB.out)) hb); clear HO_0; clear HO_7; clear HO_11; clear HB; have HO_0 := n0_; have HO_7 := n1_; have HO_11 := n2_; have HO279 := n3_; have HB := n4_; clear n0_ n1_ n2_ n3_ n4_; (try clear hb); (try clear hb2); (try clear hk); (try clear hi); (try clear ho0); obtain ⟨Ao84, co84, eo84⟩ := Kd.R_slice HO_11.out; subst eo84; obtain ⟨Ao85, co85, eo85⟩ := Kd.R_slice HO279.out; subst eo85) | (go_at_call 16; (with_reducible refine (footwayref06_Same.calls kj33 _ _ t246 _ _ t277 true _ ?side1 ?side2 ?side3 ?side4 A81.out).mono ?_); (case side1 => repeat (first | exact (Kd.R_reads' HO_11.out).2.2 | (with_reducible refine Kd.C_alloc ?_ _) | (with_reducible refine Kd.C_drewN ?_ _) | (with_reducible refine Kd.C_drew ?_))); (case side2 => exact (Kd.R_reads' HO_11.out).2.1); (case side3 => repeat (first | exact (Kd.R_reads' HO279.out).2.2 | (with_reducible refine Kd.C_alloc ?_ _) | (with_reducible refine Kd.C_drewN ?_ _) | (with_reducible refine Kd.C_drew ?_))); (case side4 => exact (Kd.R_reads' HO279.out).2.1); rintro e w' ⟨rfl, ⟨nd, rfl⟩⟩))
                            go_meet
                            case rel => exact ⟨_, H', ⟨by have := HJ9.out; have := HJ24.out; have := HJ33.out; first | omega | exact Nat.le_refl _⟩, ⟨by (with_reducible repeat (first | apply Kd.V_alloc | apply Kd.V_drewN | apply Kd.V_drew)); exact Kd.V_mono HO_0.out (fun _ hk => hk.1.1)⟩, ⟨by (with_reducible repeat (first | apply Kd.R_alloc | apply Kd.R_drewN | apply Kd.R_drew)); exact Kd.R_mono HO_7.out (fun _ hk => trivial)⟩, ⟨by repeat (first | (with_reducible first | exact HB.out | apply below_alloc | apply pw_below_drewN | apply below_drew1) | exact HB.out)⟩⟩
                          · replace c82 := Bool.eq_false_iff.mpr c82
                            subst c82
                            have H1 : (some false) = some r := by rw [if_neg (show ¬ (false = true) by decide)] at H; exact H
                            clear H
                            have H := H1
                            clear H1
                            obtain rfl := Option.some.inj H
                            go_wp2_with (first | (go_at_call 36; (with_reducible refine (footwayref06_Without.calls kj33 _ _ t237 a1 t277 _ ?side1 ?side2 A80.out).mono ?_); (case side1 => repeat (first | exact (Kd.V_reads' HO_0.out).2.2 | (with_reducible refine Kd.C_alloc ?_ _) | (with_reducible refine Kd.C_drewN ?_ _) | (with_reducible refine Kd.C_drew ?_))); (case side2 => exact (Kd.V_reads' HO_0.out).2.1); rintro e w86 ⟨v278, rfl, ho0, hb⟩; have n0_ := Aside0.mk (Kd.V_elder' (by (with_reducible repeat (first | apply Kd.V_alloc | apply Kd.V_drewN | apply Kd.V_drew)); exact HO_0.out) (Kd.R_base ho0) hb); have n1_ := Aside0.mk (Kd.R_elder' (by (with_reducible repeat (first | apply Kd.R_alloc | apply Kd.R_drewN | apply Kd.R_drew)); exact HO_7.out) (Kd.R_base ho0) hb); have n2_ := Aside0.mk (Kd.R_elder' (by (with_reducible repeat (first | apply Kd.R_alloc | apply Kd.R_drewN | apply Kd.R_drew)); exact HO_11.out) (Kd.R_base ho0) hb); have n3_ := Aside0.mk (Kd.R_lower (Kd.R_new' (Kd.R_new' ho0 (Kd.R_lt (by (with_reducible repeat (first | apply Kd.R_alloc | apply Kd.R_drewN | apply Kd.R_drew)); exact HO_7.out))) (Kd.R_lt (by (with_reducible repeat (first | apply Kd.R_alloc | apply Kd.R_drewN | apply Kd.R_drew)); exact HO_11.out))) (below_size (by repeat (first | (with_reducible first | exact HB.out | apply below_alloc | apply pw_below_drewN | apply below_drew1) | exact HB.out)))); have n4_ := Aside0.mk (below_step (by repeat (first | (with_reducible first | exact HB.out | apply below_alloc | apply pw_below_drewN | apply below_drew1) | exact HB.out)) hb); clear HO_0; clear HO_7; clear HO_11; clear HB; have HO_0 := n0_; have HO_7 := n1_; have HO_11 := n2_; have HO279 := n3_; have HB := n4_; clear n0_ n1_ n2_ n3_ n4_; (try clear hb); (try clear hb2); (try clear hk); (try clear hi); (try clear ho0); obtain ⟨Ao87, co87, eo87⟩ := Kd.R_slice HO_11.out; subst eo87; obtain ⟨Ao88, co88, eo88⟩ := Kd.R_slice HO279.out; subst eo88) | (go_at_call 16; (with_reducible refine (footwayref06_Same.calls kj33 _ _ t246 _ _ t277 false _ ?side1 ?side2 ?side3 ?side4 A81.out).mono ?_); (case side1 => repeat (first | exact (Kd.R_reads' HO_11.out).2.2 | (with_reducible refine Kd.C_alloc ?_ _) | (with_reducible refine Kd.C_drewN ?_ _) | (with_reducible refine Kd.C_drew ?_))); (case side2 => exact (Kd.R_reads' HO_11.out).2.1); (case side3 => repeat (first | exact (Kd.R_reads' HO279.out).2.2 | (with_reducible refine Kd.C_alloc ?_ _) | (with_reducible refine Kd.C_drewN ?_ _) | (with_reducible refine Kd.C_drew ?_))); (case side4 => exact (Kd.R_reads' HO279.out).2.1); rintro e w' ⟨rfl, ⟨nd, rfl⟩⟩))
                            go_ret
                            exact ⟨by first | rfl | (simp [errW_none, errW_some] <;> rfl) | (simp [*, errW_none, errW_some] <;> rfl), by repeat (first | (with_reducible first | exact HB.out | apply below_alloc | apply pw_below_drewN | apply below_drew1) | exact HB.out)⟩
                        · rw [if_neg c79] at H
                          have c79b0 : (t247 == 0) = false := beq_eq_false_iff_ne.mpr c79
                          have c79b1 : (t247 != 0) = true := bne_iff_ne.mpr c79
                          (first | rw [c79b0] | (simp only [i64_w, i32_w]; rw [c79b0]) | skip)
                          obtain rfl := Option.some.inj H
                          go_wp2
                          go_ret
                          exact ⟨by first | rfl | (simp [errW_none, errW_some] <;> rfl) | (simp [*, errW_none, errW_some] <;> rfl), by repeat (first | (with_reducible first | exact HB.out | apply below_alloc | apply pw_below_drewN | apply below_drew1) | exact HB.out)⟩
                      · replace c78 := Bool.eq_false_iff.mpr c78
                        subst c78
                        have H1 : (if t247 = 4 then (if (t246.length : Int) = 0 then (footwaylaw06_LruTells.j3 kj33 t237 a1 t240 t241) else (some false)) else (some false)) = some r := by rw [if_neg (show ¬ (false = true) by decide)] at H; exact H
                        clear H
                        have H := H1
                        clear H1
                        by_cases c89 : t247 = 4
                        · rw [if_pos c89] at H
                          have c89b0 : (t247 == 4) = true := beq_iff_eq.mpr c89
                          have c89b1 : (t247 != 4) = false := bne_eq_false_iff_eq.mpr c89
                          clear c89
                          by_cases c90 : (t246.length : Int) = 0
                          · rw [if_pos c90] at H
                            have c90b0 : ((t246.length : Int) == 0) = true := beq_iff_eq.mpr c90
                            have c90b1 : ((t246.length : Int) != 0) = false := bne_eq_false_iff_eq.mpr c90
                            clear c90
                            have H' := Aside0.mk H
                            clear H
                            obtain ⟨Ao91, co91, eo91⟩ := Kd.R_slice HO_11.out
                            subst eo91
                            go_wp2
                            go_meet
                            case rel => exact ⟨_, H', ⟨by have := HJ9.out; have := HJ24.out; have := HJ33.out; first | omega | exact Nat.le_refl _⟩, ⟨by (with_reducible repeat (first | apply Kd.V_alloc | apply Kd.V_drewN | apply Kd.V_drew)); exact Kd.V_mono HO_0.out (fun _ hk => hk.1)⟩, ⟨by (with_reducible repeat (first | apply Kd.R_alloc | apply Kd.R_drewN | apply Kd.R_drew)); exact Kd.R_mono HO_7.out (fun _ hk => trivial)⟩, ⟨by repeat (first | (with_reducible first | exact HB.out | apply below_alloc | apply pw_below_drewN | apply below_drew1) | exact HB.out)⟩⟩
                          · rw [if_neg c90] at H
                            have c90b0 : ((t246.length : Int) == 0) = false := beq_eq_false_iff_ne.mpr c90
                            have c90b1 : ((t246.length : Int) != 0) = true := bne_iff_ne.mpr c90
                            have c90b2 : ¬ (t246 = []) := fun h_ => c90 (by rw [h_]; rfl)
                            obtain rfl := Option.some.inj H
                            obtain ⟨Ao92, co92, eo92⟩ := Kd.R_slice HO_11.out
                            subst eo92
                            go_wp2
                            go_ret
                            exact ⟨by first | rfl | (simp [errW_none, errW_some] <;> rfl) | (simp [*, errW_none, errW_some] <;> rfl), by repeat (first | (with_reducible first | exact HB.out | apply below_alloc | apply pw_below_drewN | apply below_drew1) | exact HB.out)⟩
                        · rw [if_neg c89] at H
                          have c89b0 : (t247 == 4) = false := beq_eq_false_iff_ne.mpr c89
                          have c89b1 : (t247 != 4) = true := bne_iff_ne.mpr c89
                          obtain rfl := Option.some.inj H
                          go_wp2
                          go_ret
                          exact ⟨by first | rfl | (simp [errW_none, errW_some] <;> rfl) | (simp [*, errW_none, errW_some] <;> rfl), by repeat (first | (with_reducible first | exact HB.out | apply below_alloc | apply pw_below_drewN | apply below_drew1) | exact HB.out)⟩
                    case rest => as_aux_lemma =>
                      clear HC77
                      try clear c1
                      try clear c2
                      try clear p2
                      try clear q2
                      try clear hx2
                      try clear c3
                      try clear c4
                      try clear c5
                      try clear q5
                      try clear c6
                      try clear p6
                      try clear q6
                      try clear c7
                      try clear c8
                      try clear c9
                      try clear c11
                      try clear c12
                      try clear c13
                      try clear c15
                      try clear c18
                      try clear c18b0
                      try clear c18b1
                      try clear c18b2
                      try clear c19
                      try clear c23
                      try clear c24
                      try clear c26
                      try clear c26b0
                      try clear c26b1
                      try clear c26b2
                      try clear p26
                      try clear q26
                      try clear hx26
                      try clear c27
                      try clear c27b0
                      try clear c27b1
                      try clear c28
                      try clear c28b0
                      try clear c28b1
                      try clear c29
                      try clear c29b0
                      try clear c29b1
                      try clear c31
                      try clear c31b0
                      try clear c32
                      try clear c32b0
                      try clear c33
                      try clear c33b0
                      try clear c33b1
                      try clear c35
                      try clear c35b0
                      try clear c36
                      try clear c36b0
                      try clear c36b1
                      try clear c37
                      try clear c37b0
                      try clear c37b1
                      try clear c37b2
                      try clear c38
                      try clear c38b0
                      try clear c38b1
                      try clear c38b2
                      try clear c43
                      try clear c45
                      try clear c45b0
                      try clear c45b1
                      try clear c46
                      try clear c46b0
                      try clear c46b1
                      try clear c47
                      try clear c47b0
                      try clear c47b1
                      try clear c49
                      try clear c50
                      try clear c50b0
                      try clear c51
                      try clear c51b0
                      try clear c54
                      try clear q55
                      try clear c57
                      try clear q57
                      try clear q61
                      try clear c63
                      try clear q63
                      try clear p64
                      try clear q67
                      try clear c69
                      try clear c69b0
                      try clear c70
                      try clear c70b0
                      try clear c70b1
                      try clear c71
                      try clear c71b0
                      try clear c71b1
                      try clear c72
                      try clear c72b0
                      try clear c72b1
                      try clear c72b2
                      try clear c78
                      try clear c79
                      try clear c79b0
                      try clear c79b1
                      try clear c82
                      try clear c89
                      try clear c89b0
                      try clear c89b1
                      try clear c90
                      try clear c90b0
                      try clear c90b1
                      try clear c90b2
                      try clear hx260_0
                      try clear p2
                      try clear p26
                      try clear p260
                      try clear p6
                      try clear p64
                      try clear q057
                      try clear q063
                      try clear q2
                      try clear q26
                      try clear q260
                      try clear q5
                      try clear q55
                      try clear q57
                      try clear q6
                      try clear q61
                      try clear q63
                      try clear q67
                      obtain ⟨kq, HA, HJ76, HO_0, HO_7, HB⟩ := hcut
                      cases kq with
                      | zero => exact absurd HA.out (by simp [footwaylaw06_LruTells.j3])
                      | succ kj76 =>
                        have H := HA.out
                        clear HA
                        simp only [footwaylaw06_LruTells.j3] at H
                        replace H := Option.bind_eq_some_iff.mp H
                        obtain ⟨t281, A930, H⟩ := H
                        replace H : (if (t281.length : Int) > 64 then (if t241 = 5 then (some ((t240.length : Int) == 0)) else (some false)) else (if t241 = 0 then ((footwayref06_Same.f kj76 t240 t281).bind fun t284 => (some t284)) else (some false))) = some r := H
                        have A93 := Aside0.mk A930
                        clear A930
                        by_cases c94 : (t281.length : Int) > 64
                        · rw [if_pos c94] at H
                          have c94b0 : decide (64 < (t281.length : Int)) = true := decide_eq_true c94
                          have c94b1 : decide (64 < t281.length) = true := decide_eq_true (by omega)
                          clear c94
                          by_cases c95 : t241 = 5
                          · rw [if_pos c95] at H
                            have c95b0 : (t241 == 5) = true := beq_iff_eq.mpr c95
                            have c95b1 : (t241 != 5) = false := bne_eq_false_iff_eq.mpr c95
                            clear c95
                            obtain rfl := Option.some.inj H
                            go_wp2_with (first | ((with_reducible refine gate_callee (f := 17) rfl ?_); refine goesL_ (some 194) rfl rfl Try.func17 (by kernel_rfl) rfl #[.slice Ao12 t237.length co12, .int .i64 a1] rfl (by (try simp only [List.map_toArray, List.map_cons, List.map_nil]); first | done | rfl | (simp only [List.length_drop, List.length_take]; rfl)) ?_; (with_reducible refine (footwayref06_Use.calls kj76 _ _ t237 a1 t281 _ ?side1 ?side2 A93.out).mono ?_); (case side1 => repeat (first | exact (Kd.V_reads' HO_0.out).2.2 | (with_reducible refine Kd.C_alloc ?_ _) | (with_reducible refine Kd.C_drewN ?_ _) | (with_reducible refine Kd.C_drew ?_))); (case side2 => exact (Kd.V_reads' HO_0.out).2.1); rintro e w96 ⟨v282, rfl, ho0, hb⟩; refine ⟨_, rfl, ?_⟩; have n0_ := Aside0.mk (Kd.V_elder' (by (with_reducible repeat (first | apply Kd.V_alloc | apply Kd.V_drewN | apply Kd.V_drew)); exact HO_0.out) (Kd.R_base ho0) hb); have n1_ := Aside0.mk (Kd.R_elder' (by (with_reducible repeat (first | apply Kd.R_alloc | apply Kd.R_drewN | apply Kd.R_drew)); exact HO_7.out) (Kd.R_base ho0) hb); have n2_ := Aside0.mk (Kd.R_lower (Kd.R_new' ho0 (Kd.R_lt (by (with_reducible repeat (first | apply Kd.R_alloc | apply Kd.R_drewN | apply Kd.R_drew)); exact HO_7.out))) (below_size (by repeat (first | (with_reducible first | exact HB.out | apply below_alloc | apply pw_below_drewN | apply below_drew1) | exact HB.out)))); have n3_ := Aside0.mk (below_step (by repeat (first | (with_reducible first | exact HB.out | apply below_alloc | apply pw_below_drewN | apply below_drew1) | exact HB.out)) hb); clear HO_0; clear HO_7; clear HB; have HO_0 := n0_; have HO_7 := n1_; have HO283 := n2_; have HB := n3_; clear n0_ n1_ n2_ n3_; (try clear hb); (try clear hb2); (try clear hk); (try clear hi); (try clear ho0); obtain ⟨Ao97, co97, eo97⟩ := Kd.R_slice HO283.out; subst eo97; obtain ⟨Ao98, co98, eo98⟩ := Kd.R_slice HO_7.out; subst eo98))
                            go_ret
                            exact ⟨by first | rfl | (simp [errW_none, errW_some] <;> rfl) | (simp [*, errW_none, errW_some] <;> rfl), by repeat (first | (with_reducible first | exact HB.out | apply below_alloc | apply pw_below_drewN | apply below_drew1) | exact HB.out)⟩
                          · rw [if_neg c95] at H
                            have c95b0 : (t241 == 5) = false := beq_eq_false_iff_ne.mpr c95
                            have c95b1 : (t241 != 5) = true := bne_iff_ne.mpr c95
                            obtain rfl := Option.some.inj H
                            go_wp2_with (first | ((with_reducible refine gate_callee (f := 17) rfl ?_); refine goesL_ (some 194) rfl rfl Try.func17 (by kernel_rfl) rfl #[.slice Ao12 t237.length co12, .int .i64 a1] rfl (by (try simp only [List.map_toArray, List.map_cons, List.map_nil]); first | done | rfl | (simp only [List.length_drop, List.length_take]; rfl)) ?_; (with_reducible refine (footwayref06_Use.calls kj76 _ _ t237 a1 t281 _ ?side1 ?side2 A93.out).mono ?_); (case side1 => repeat (first | exact (Kd.V_reads' HO_0.out).2.2 | (with_reducible refine Kd.C_alloc ?_ _) | (with_reducible refine Kd.C_drewN ?_ _) | (with_reducible refine Kd.C_drew ?_))); (case side2 => exact (Kd.V_reads' HO_0.out).2.1); rintro e w99 ⟨v282, rfl, ho0, hb⟩; refine ⟨_, rfl, ?_⟩; have n0_ := Aside0.mk (Kd.V_elder' (by (with_reducible repeat (first | apply Kd.V_alloc | apply Kd.V_drewN | apply Kd.V_drew)); exact HO_0.out) (Kd.R_base ho0) hb); have n1_ := Aside0.mk (Kd.R_elder' (by (with_reducible repeat (first | apply Kd.R_alloc | apply Kd.R_drewN | apply Kd.R_drew)); exact HO_7.out) (Kd.R_base ho0) hb); have n2_ := Aside0.mk (Kd.R_lower (Kd.R_new' ho0 (Kd.R_lt (by (with_reducible repeat (first | apply Kd.R_alloc | apply Kd.R_drewN | apply Kd.R_drew)); exact HO_7.out))) (below_size (by repeat (first | (with_reducible first | exact HB.out | apply below_alloc | apply pw_below_drewN | apply below_drew1) | exact HB.out)))); have n3_ := Aside0.mk (below_step (by repeat (first | (with_reducible first | exact HB.out | apply below_alloc | apply pw_below_drewN | apply below_drew1) | exact HB.out)) hb); clear HO_0; clear HO_7; clear HB; have HO_0 := n0_; have HO_7 := n1_; have HO283 := n2_; have HB := n3_; clear n0_ n1_ n2_ n3_; (try clear hb); (try clear hb2); (try clear hk); (try clear hi); (try clear ho0); obtain ⟨Ao100, co100, eo100⟩ := Kd.R_slice HO283.out; subst eo100))
                            go_ret
                            exact ⟨by first | rfl | (simp [errW_none, errW_some] <;> rfl) | (simp [*, errW_none, errW_some] <;> rfl), by repeat (first | (with_reducible first | exact HB.out | apply below_alloc | apply pw_below_drewN | apply below_drew1) | exact HB.out)⟩
                        · rw [if_neg c94] at H
                          have c94b0 : decide (64 < (t281.length : Int)) = false := decide_eq_false c94
                          have c94b1 : decide (64 < t281.length) = false := decide_eq_false (by omega)
                          clear c94
                          by_cases c101 : t241 = 0
                          · rw [if_pos c101] at H
                            have c101b0 : (t241 == 0) = true := beq_iff_eq.mpr c101
                            have c101b1 : (t241 != 0) = false := bne_eq_false_iff_eq.mpr c101
                            clear c101
                            replace H := Option.bind_eq_some_iff.mp H
                            obtain ⟨t284, A1020, H⟩ := H
                            replace H : (some t284) = some r := H
                            have A102 := Aside0.mk A1020
                            clear A1020
                            obtain rfl := Option.some.inj H
                            go_wp2_with (first | ((with_reducible refine gate_callee (f := 17) rfl ?_); refine goesL_ (some 194) rfl rfl Try.func17 (by kernel_rfl) rfl #[.slice Ao12 t237.length co12, .int .i64 a1] rfl (by (try simp only [List.map_toArray, List.map_cons, List.map_nil]); first | done | rfl | (simp only [List.length_drop, List.length_take]; rfl)) ?_; (with_reducible refine (footwayref06_Use.calls kj76 _ _ t237 a1 t281 _ ?side1 ?side2 A93.out).mono ?_); (case side1 => repeat (first | exact (Kd.V_reads' HO_0.out).2.2 | (with_reducible refine Kd.C_alloc ?_ _) | (with_reducible refine Kd.C_drewN ?_ _) | (with_reducible refine Kd.C_drew ?_))); (case side2 => exact (Kd.V_reads' HO_0.out).2.1); rintro e w103 ⟨v282, rfl, ho0, hb⟩; refine ⟨_, rfl, ?_⟩; have n0_ := Aside0.mk (Kd.V_elder' (by (with_reducible repeat (first | apply Kd.V_alloc | apply Kd.V_drewN | apply Kd.V_drew)); exact HO_0.out) (Kd.R_base ho0) hb); have n1_ := Aside0.mk (Kd.R_elder' (by (with_reducible repeat (first | apply Kd.R_alloc | apply Kd.R_drewN | apply Kd.R_drew)); exact HO_7.out) (Kd.R_base ho0) hb); have n2_ := Aside0.mk (Kd.R_lower (Kd.R_new' ho0 (Kd.R_lt (by (with_reducible repeat (first | apply Kd.R_alloc | apply Kd.R_drewN | apply Kd.R_drew)); exact HO_7.out))) (below_size (by repeat (first | (with_reducible first | exact HB.out | apply below_alloc | apply pw_below_drewN | apply below_drew1) | exact HB.out)))); have n3_ := Aside0.mk (below_step (by repeat (first | (with_reducible first | exact HB.out | apply below_alloc | apply pw_below_drewN | apply below_drew1) | exact HB.out)) hb); clear HO_0; clear HO_7; clear HB; have HO_0 := n0_; have HO_7 := n1_; have HO283 := n2_; have HB := n3_; clear n0_ n1_ n2_ n3_; (try clear hb); (try clear hb2); (try clear hk); (try clear hi); (try clear ho0); obtain ⟨Ao104, co104, eo104⟩ := Kd.R_slice HO283.out; subst eo104; obtain ⟨Ao105, co105, eo105⟩ := Kd.R_slice HO_7.out; subst eo105) | (go_at_call 16; (with_reducible refine (footwayref06_Same.calls kj76 _ _ t240 _ _ t281 t284 _ ?side1 ?side2 ?side3 ?side4 A102.out).mono ?_); (case side1 => repeat (first | exact (Kd.R_reads' HO_7.out).2.2 | (with_reducible refine Kd.C_alloc ?_ _) | (with_reducible refine Kd.C_drewN ?_ _) | (with_reducible refine Kd.C_drew ?_))); (case side2 => exact (Kd.R_reads' HO_7.out).2.1); (case side3 => repeat (first | exact (Kd.R_reads' HO283.out).2.2 | (with_reducible refine Kd.C_alloc ?_ _) | (with_reducible refine Kd.C_drewN ?_ _) | (with_reducible refine Kd.C_drew ?_))); (case side4 => exact (Kd.R_reads' HO283.out).2.1); rintro e w' ⟨rfl, ⟨nd, rfl⟩⟩))
                            go_ret
                            exact ⟨by first | rfl | (simp [errW_none, errW_some] <;> rfl) | (simp [*, errW_none, errW_some] <;> rfl), by repeat (first | (with_reducible first | exact HB.out | apply below_alloc | apply pw_below_drewN | apply below_drew1) | exact HB.out)⟩
                          · rw [if_neg c101] at H
                            have c101b0 : (t241 == 0) = false := beq_eq_false_iff_ne.mpr c101
                            have c101b1 : (t241 != 0) = true := bne_iff_ne.mpr c101
                            obtain rfl := Option.some.inj H
                            go_wp2_with (first | ((with_reducible refine gate_callee (f := 17) rfl ?_); refine goesL_ (some 194) rfl rfl Try.func17 (by kernel_rfl) rfl #[.slice Ao12 t237.length co12, .int .i64 a1] rfl (by (try simp only [List.map_toArray, List.map_cons, List.map_nil]); first | done | rfl | (simp only [List.length_drop, List.length_take]; rfl)) ?_; (with_reducible refine (footwayref06_Use.calls kj76 _ _ t237 a1 t281 _ ?side1 ?side2 A93.out).mono ?_); (case side1 => repeat (first | exact (Kd.V_reads' HO_0.out).2.2 | (with_reducible refine Kd.C_alloc ?_ _) | (with_reducible refine Kd.C_drewN ?_ _) | (with_reducible refine Kd.C_drew ?_))); (case side2 => exact (Kd.V_reads' HO_0.out).2.1); rintro e w106 ⟨v282, rfl, ho0, hb⟩; refine ⟨_, rfl, ?_⟩; have n0_ := Aside0.mk (Kd.V_elder' (by (with_reducible repeat (first | apply Kd.V_alloc | apply Kd.V_drewN | apply Kd.V_drew)); exact HO_0.out) (Kd.R_base ho0) hb); have n1_ := Aside0.mk (Kd.R_elder' (by (with_reducible repeat (first | apply Kd.R_alloc | apply Kd.R_drewN | apply Kd.R_drew)); exact HO_7.out) (Kd.R_base ho0) hb); have n2_ := Aside0.mk (Kd.R_lower (Kd.R_new' ho0 (Kd.R_lt (by (with_reducible repeat (first | apply Kd.R_alloc | apply Kd.R_drewN | apply Kd.R_drew)); exact HO_7.out))) (below_size (by repeat (first | (with_reducible first | exact HB.out | apply below_alloc | apply pw_below_drewN | apply below_drew1) | exact HB.out)))); have n3_ := Aside0.mk (below_step (by repeat (first | (with_reducible first | exact HB.out | apply below_alloc | apply pw_below_drewN | apply below_drew1) | exact HB.out)) hb); clear HO_0; clear HO_7; clear HB; have HO_0 := n0_; have HO_7 := n1_; have HO283 := n2_; have HB := n3_; clear n0_ n1_ n2_ n3_; (try clear hb); (try clear hb2); (try clear hk); (try clear hi); (try clear ho0); obtain ⟨Ao107, co107, eo107⟩ := Kd.R_slice HO283.out; subst eo107))
                            go_ret
                            exact ⟨by first | rfl | (simp [errW_none, errW_some] <;> rfl) | (simp [*, errW_none, errW_some] <;> rfl), by repeat (first | (with_reducible first | exact HB.out | apply below_alloc | apply pw_below_drewN | apply below_drew1) | exact HB.out)⟩
        · replace c24 := Bool.eq_false_iff.mpr c24
          subst c24
          have H1 : (if t241 = 1 then (if t245 = 1 then (if t247 = 1 then (if t256 = 1 then (if (t240.length : Int) = 0 then (if t244 = 0 then (if (t246.length : Int) = 0 then (if (t250.length : Int) = 0 then (some ((t253.length : Int) == 0)) else (some false)) else (some false)) else (some false)) else (some false)) else (some false)) else (some false)) else (some false)) else (some false)) = some r := by rw [if_neg (show ¬ (false = true) by decide)] at H; exact H
          clear H
          have H := H1
          clear H1
          by_cases c108 : t241 = 1
          · rw [if_pos c108] at H
            have c108b0 : (t241 == 1) = true := beq_iff_eq.mpr c108
            have c108b1 : (t241 != 1) = false := bne_eq_false_iff_eq.mpr c108
            clear c108
            by_cases c109 : t245 = 1
            · rw [if_pos c109] at H
              have c109b0 : (t245 == 1) = true := beq_iff_eq.mpr c109
              have c109b1 : (t245 != 1) = false := bne_eq_false_iff_eq.mpr c109
              clear c109
              by_cases c110 : t247 = 1
              · rw [if_pos c110] at H
                have c110b0 : (t247 == 1) = true := beq_iff_eq.mpr c110
                have c110b1 : (t247 != 1) = false := bne_eq_false_iff_eq.mpr c110
                clear c110
                by_cases c111 : t256 = 1
                · rw [if_pos c111] at H
                  have c111b0 : (t256 == 1) = true := beq_iff_eq.mpr c111
                  have c111b1 : (t256 != 1) = false := bne_eq_false_iff_eq.mpr c111
                  clear c111
                  by_cases c112 : (t240.length : Int) = 0
                  · rw [if_pos c112] at H
                    have c112b0 : ((t240.length : Int) == 0) = true := beq_iff_eq.mpr c112
                    have c112b1 : ((t240.length : Int) != 0) = false := bne_eq_false_iff_eq.mpr c112
                    clear c112
                    by_cases c113 : t244 = 0
                    · rw [if_pos c113] at H
                      have c113b0 : (t244 == 0) = true := beq_iff_eq.mpr c113
                      have c113b1 : (t244 != 0) = false := bne_eq_false_iff_eq.mpr c113
                      clear c113
                      by_cases c114 : (t246.length : Int) = 0
                      · rw [if_pos c114] at H
                        have c114b0 : ((t246.length : Int) == 0) = true := beq_iff_eq.mpr c114
                        have c114b1 : ((t246.length : Int) != 0) = false := bne_eq_false_iff_eq.mpr c114
                        clear c114
                        by_cases c115 : (t250.length : Int) = 0
                        · rw [if_pos c115] at H
                          have c115b0 : ((t250.length : Int) == 0) = true := beq_iff_eq.mpr c115
                          have c115b1 : ((t250.length : Int) != 0) = false := bne_eq_false_iff_eq.mpr c115
                          clear c115
                          obtain rfl := Option.some.inj H
                          obtain ⟨Ao116, co116, eo116⟩ := Kd.R_slice HO_7.out
                          subst eo116
                          obtain ⟨Ao117, co117, eo117⟩ := Kd.R_slice HO_11.out
                          subst eo117
                          obtain ⟨Ao118, co118, eo118⟩ := Kd.V_slice HO_13.out
                          subst eo118
                          obtain ⟨Ao119, co119, eo119⟩ := Kd.R_slice HO_14.out
                          subst eo119
                          go_wp2
                          go_ret
                          exact ⟨by first | rfl | (simp [errW_none, errW_some] <;> rfl) | (simp [*, errW_none, errW_some] <;> rfl), by repeat (first | (with_reducible first | exact HB.out | apply below_alloc | apply pw_below_drewN | apply below_drew1) | exact HB.out)⟩
                        · rw [if_neg c115] at H
                          have c115b0 : ((t250.length : Int) == 0) = false := beq_eq_false_iff_ne.mpr c115
                          have c115b1 : ((t250.length : Int) != 0) = true := bne_iff_ne.mpr c115
                          have c115b2 : ¬ (t250 = []) := fun h_ => c115 (by rw [h_]; rfl)
                          obtain rfl := Option.some.inj H
                          obtain ⟨Ao120, co120, eo120⟩ := Kd.R_slice HO_7.out
                          subst eo120
                          obtain ⟨Ao121, co121, eo121⟩ := Kd.R_slice HO_11.out
                          subst eo121
                          obtain ⟨Ao122, co122, eo122⟩ := Kd.V_slice HO_13.out
                          subst eo122
                          go_wp2
                          go_ret
                          exact ⟨by first | rfl | (simp [errW_none, errW_some] <;> rfl) | (simp [*, errW_none, errW_some] <;> rfl), by repeat (first | (with_reducible first | exact HB.out | apply below_alloc | apply pw_below_drewN | apply below_drew1) | exact HB.out)⟩
                      · rw [if_neg c114] at H
                        have c114b0 : ((t246.length : Int) == 0) = false := beq_eq_false_iff_ne.mpr c114
                        have c114b1 : ((t246.length : Int) != 0) = true := bne_iff_ne.mpr c114
                        have c114b2 : ¬ (t246 = []) := fun h_ => c114 (by rw [h_]; rfl)
                        obtain rfl := Option.some.inj H
                        obtain ⟨Ao123, co123, eo123⟩ := Kd.R_slice HO_7.out
                        subst eo123
                        obtain ⟨Ao124, co124, eo124⟩ := Kd.R_slice HO_11.out
                        subst eo124
                        go_wp2
                        go_ret
                        exact ⟨by first | rfl | (simp [errW_none, errW_some] <;> rfl) | (simp [*, errW_none, errW_some] <;> rfl), by repeat (first | (with_reducible first | exact HB.out | apply below_alloc | apply pw_below_drewN | apply below_drew1) | exact HB.out)⟩
                    · rw [if_neg c113] at H
                      have c113b0 : (t244 == 0) = false := beq_eq_false_iff_ne.mpr c113
                      have c113b1 : (t244 != 0) = true := bne_iff_ne.mpr c113
                      obtain rfl := Option.some.inj H
                      obtain ⟨Ao125, co125, eo125⟩ := Kd.R_slice HO_7.out
                      subst eo125
                      go_wp2
                      go_ret
                      exact ⟨by first | rfl | (simp [errW_none, errW_some] <;> rfl) | (simp [*, errW_none, errW_some] <;> rfl), by repeat (first | (with_reducible first | exact HB.out | apply below_alloc | apply pw_below_drewN | apply below_drew1) | exact HB.out)⟩
                  · rw [if_neg c112] at H
                    have c112b0 : ((t240.length : Int) == 0) = false := beq_eq_false_iff_ne.mpr c112
                    have c112b1 : ((t240.length : Int) != 0) = true := bne_iff_ne.mpr c112
                    have c112b2 : ¬ (t240 = []) := fun h_ => c112 (by rw [h_]; rfl)
                    obtain rfl := Option.some.inj H
                    obtain ⟨Ao126, co126, eo126⟩ := Kd.R_slice HO_7.out
                    subst eo126
                    go_wp2
                    go_ret
                    exact ⟨by first | rfl | (simp [errW_none, errW_some] <;> rfl) | (simp [*, errW_none, errW_some] <;> rfl), by repeat (first | (with_reducible first | exact HB.out | apply below_alloc | apply pw_below_drewN | apply below_drew1) | exact HB.out)⟩
                · rw [if_neg c111] at H
                  have c111b0 : (t256 == 1) = false := beq_eq_false_iff_ne.mpr c111
                  have c111b1 : (t256 != 1) = true := bne_iff_ne.mpr c111
                  obtain rfl := Option.some.inj H
                  go_wp2
                  go_ret
                  exact ⟨by first | rfl | (simp [errW_none, errW_some] <;> rfl) | (simp [*, errW_none, errW_some] <;> rfl), by repeat (first | (with_reducible first | exact HB.out | apply below_alloc | apply pw_below_drewN | apply below_drew1) | exact HB.out)⟩
              · rw [if_neg c110] at H
                have c110b0 : (t247 == 1) = false := beq_eq_false_iff_ne.mpr c110
                have c110b1 : (t247 != 1) = true := bne_iff_ne.mpr c110
                obtain rfl := Option.some.inj H
                go_wp2
                go_ret
                exact ⟨by first | rfl | (simp [errW_none, errW_some] <;> rfl) | (simp [*, errW_none, errW_some] <;> rfl), by repeat (first | (with_reducible first | exact HB.out | apply below_alloc | apply pw_below_drewN | apply below_drew1) | exact HB.out)⟩
            · rw [if_neg c109] at H
              have c109b0 : (t245 == 1) = false := beq_eq_false_iff_ne.mpr c109
              have c109b1 : (t245 != 1) = true := bne_iff_ne.mpr c109
              obtain rfl := Option.some.inj H
              go_wp2
              go_ret
              exact ⟨by first | rfl | (simp [errW_none, errW_some] <;> rfl) | (simp [*, errW_none, errW_some] <;> rfl), by repeat (first | (with_reducible first | exact HB.out | apply below_alloc | apply pw_below_drewN | apply below_drew1) | exact HB.out)⟩
          · rw [if_neg c108] at H
            have c108b0 : (t241 == 1) = false := beq_eq_false_iff_ne.mpr c108
            have c108b1 : (t241 != 1) = true := bne_iff_ne.mpr c108
            obtain rfl := Option.some.inj H
            go_wp2
            go_ret
            exact ⟨by first | rfl | (simp [errW_none, errW_some] <;> rfl) | (simp [*, errW_none, errW_some] <;> rfl), by repeat (first | (with_reducible first | exact HB.out | apply below_alloc | apply pw_below_drewN | apply below_drew1) | exact HB.out)⟩

/-- THE ONE PURE STATEMENT of footwaylaw06_LruTells: yours. -/
def footwaylaw06_LruTells.Pure : Prop := ∀ (l0 : List Int) (a1 : Int) (a2 : Int), l0.length ≤ maxLen → l0.length * 8 ≤ 140737488351232 → (∀ x ∈ l0, (Lit.int .i64 x).wf = true) → (Lit.int .i64 a1).wf = true → (Lit.int .i64 a2).wf = true → ∃ k, footwaylaw06_LruTells.f k l0 a1 a2 = some true
theorem footwaylaw06_LruTells.walk (P : footwaylaw06_LruTells.Pure) (a0 : Option Addr) (len0 cap0 : Nat) (z0 : List Int) (a1 : Int) (a2 : Int) (w : World) (w0 : (a0 = none ∧ len0 = 0 ∧ cap0 = 0 ∧ z0 = []) ∨ ∃ x, a0 = some x ∧ len0 ≤ cap0 ∧ cap0 ≤ maxLen ∧ z0.length = cap0 ∧ (∀ i, i < z0.length → w.cell? (x.add i) = some (.int .i64 (z0.getD i 0))) ∧ ∀ n ∈ z0, (Lit.int .i64 n).wf = true) (y0 : len0 * 8 ≤ 140737488351232) (w1 : (Lit.int .i64 a1).wf = true) (w2 : (Lit.int .i64 a2).wf = true) :
    Calls Try.prog 11 #[.slice a0 len0 cap0, .int .i64 a1, .int .i64 a2] w fun e w' => e = .returned (.bool true) ∧ Below w.heap.size w w' := by
  obtain ⟨l0, rfl, hr0, hm0, hw0, hc0⟩ := ReadsInt.ofRowC w0
  obtain ⟨k, h⟩ := P l0 a1 a2 hm0 y0 hw0 w1 w2
  refine (footwaylaw06_LruTells.calls k _ _ l0 a1 a2 true w (Kd.C_of_reads (d := (0 : Int)) (h1 := fun _ => rfl) hr0) hc0 h).mono ?_
  rintro e w' ⟨rfl, hd⟩
  exact ⟨rfl, hd⟩

end Go.Proofs.Ytnkkedkkjmehpaa.PLru
