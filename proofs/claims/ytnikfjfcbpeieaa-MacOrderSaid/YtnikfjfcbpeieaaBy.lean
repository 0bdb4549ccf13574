/- The contract of mac.Bytes (by hand). -/
import Derived.Test.YtnikfjfcbpeieaaProg
import Derived.Test.YtnikfjfcbpeieaaWMore
import Derived.WalkKit
import Derived.LoopN
import Derived.Outline
namespace Go.Proofs.Ytnikfjfcbpeieaa.EMac
open Go.RowKit Go.Proofs.YtnikfjfcbpeieaaW.PrintWords Go.Proofs.YtnikfjfcbpeieaaW.PrintLast Go.Proofs.YtnikfjfcbpeieaaW.PrintMore
set_option linter.unusedVariables false
set_option linter.unusedSimpArgs false

/-- The six bytes of an address, as numbers. -/
def b6 (a : Int) : List Int := [a / 1099511627776, a / 4294967296 % 256, a / 16777216 % 256, a / 65536 % 256, a / 256 % 256, a % 256]

theorem six_C (W : World) (x0 x1 x2 x3 x4 x5 : Int) (t : TypeId) :
    Kd.C (Kd.int .u8) (W.alloc (.cells #[.int .u8 x0, .int .u8 x1, .int .u8 x2, .int .u8 x3, .int .u8 x4, .int .u8 x5] t)) (some ⟨W.heap.size, 0, none⟩) 6 [x0, x1, x2, x3, x4, x5] := by
  refine ⟨rfl, by decide, fun _ => ⟨_, rfl, fun j p hj => ⟨[.int .u8 p], rfl, rfl, fun i u hu => ?_⟩⟩⟩
  have hi : i = 0 := by
    rcases i with _ | i
    · rfl
    · simp at hu
  subst hi
  have hu' : u = .int .u8 p := by simpa using hu.symm
  subst hu'
  have hj' : j < 6 := (List.getElem?_eq_some_iff.1 hj).1
  have key : ∀ n, (W.alloc (.cells #[.int .u8 x0, .int .u8 x1, .int .u8 x2, .int .u8 x3, .int .u8 x4, .int .u8 x5] t)).cell? ⟨W.heap.size, n, none⟩ = (#[.int .u8 x0, .int .u8 x1, .int .u8 x2, .int .u8 x3, .int .u8 x4, .int .u8 x5] : Array Value)[n]? := fun n => World.cell?_alloc_new W _ t n
  rcases j with _ | _ | _ | _ | _ | _ | j
  · obtain rfl : x0 = p := by simpa using hj
    exact key 0
  · obtain rfl : x1 = p := by simpa using hj
    exact key 1
  · obtain rfl : x2 = p := by simpa using hj
    exact key 2
  · obtain rfl : x3 = p := by simpa using hj
    exact key 3
  · obtain rfl : x4 = p := by simpa using hj
    exact key 4
  · obtain rfl : x5 = p := by simpa using hj
    exact key 5
  · omega

theorem six_string (W : World) (x0 x1 x2 x3 x4 x5 : Int) :
    (convert 35 9 (.slice (some ⟨W.heap.size, 0, none⟩) 6 6)).run Try.prog (W.alloc (.cells #[.int .u8 x0, .int .u8 x1, .int .u8 x2, .int .u8 x3, .int .u8 x4, .int .u8 x5] 91)) =
      .ok (.string (strOfNums [x0, x1, x2, x3, x4, x5])) (W.alloc (.cells #[.int .u8 x0, .int .u8 x1, .int .u8 x2, .int .u8 x3, .int .u8 x4, .int .u8 x5] 91)) :=
  Kd.C_string Try.underlying35 Try.underlying5 Try.underlying9 (six_C W x0 x1 x2 x3 x4 x5 91)

set_option maxRecDepth 100000 in
set_option maxHeartbeats 2000000 in
theorem bytes_yes (a : Int) (w : World) (h0 : 0 ≤ a) (h1 : a ≤ 281474976710655) :
    Calls Try.prog 33 #[.int .i64 a] w fun e w' => e = .returned (.tuple #[.string (strOfNums (b6 a)), .int .i64 0]) ∧ Below w.heap.size w w' := by
  have d0 : decide (0 ≤ a) = true := decide_eq_true h0
  have d1 : decide (a ≤ 281474976710655) = true := decide_eq_true h1
  have hcv := six_string w (a / 1099511627776) (a / 4294967296 % 256) (a / 16777216 % 256) (a / 65536 % 256) (a / 256 % 256) (a % 256)
  go_enter Try.func33, Try.ntmps33
  go_wp2
  refine wp_loop_rounds 7 ?_
  rw [rounds_succ]
  go_wp2
  rw [rounds_succ]
  go_wp2
  rw [rounds_succ]
  go_wp2
  rw [rounds_succ]
  go_wp2
  rw [rounds_succ]
  go_wp2
  rw [rounds_succ]
  go_wp2
  rw [rounds_succ]
  go_wp2
  go_ret2
  exact ⟨rfl, (Below.refl _ _).alloc (Nat.le_refl _) _⟩

theorem bytes_no (a : Int) (w : World) (h : ¬ (0 ≤ a ∧ a ≤ 281474976710655)) :
    Calls Try.prog 33 #[.int .i64 a] w fun e w' => e = .returned (.tuple #[.string ⟨#[]⟩, .int .i64 1]) ∧ Below w.heap.size w w' := by
  by_cases h0 : 0 ≤ a
  · have d0 : decide (0 ≤ a) = true := decide_eq_true h0
    have d1 : decide (a ≤ 281474976710655) = false := decide_eq_false (fun h1 => h ⟨h0, h1⟩)
    go_enter Try.func33, Try.ntmps33
    go_wp2
    go_ret2
    exact ⟨rfl, Below.refl _ _⟩
  · have d0 : decide (0 ≤ a) = false := decide_eq_false h0
    go_enter Try.func33, Try.ntmps33
    go_wp2
    go_ret2
    exact ⟨rfl, Below.refl _ _⟩
end Go.Proofs.Ytnikfjfcbpeieaa.EMac
