-- Laid by a program of this session out of the translation; Lean checks it.
import Derived.Test.YtnkkedkkjmehpaaPQux0
import Derived.Test.YtnkkedkkjmehpaaPQux1
import Derived.Test.YtnkkedkkjmehpaaPQux3
import Derived.Test.YtnkkedkkjmehpaaEQu
import Derived.Test.YtnkkedkkjmehpaaPQuy0
namespace Go.Proofs.Ytnkkedkkjmehpaa.PQu
open Go.RowKit Go.Proofs.Ytnkkedkkjmehpaa.EQu Go.Proofs.YtnkkedkkjmehpaaW.PrintWords Go.Proofs.YtnkkedkkjmehpaaW.PrintLast Go.Proofs.YtnkkedkkjmehpaaW.PrintMore
attribute [local go_sem] max2_int min2_int max_two min_two max_three min_three max_four min_four   -- for this text's walks alone
set_option linter.unusedVariables false
set_option linter.unusedSimpArgs false

def footwaylaw09_QueueTells.T1 : Bool × List (List Nat × List Nat) := (true, [([], []), ([0], [0]), ([], []), ([], []), ([3], [3]), ([4], [4]), ([2, 5], [2, 5]), ([1, 1, 0, 1], [1]), ([6, 7, 0, 1, 2, 3, 4, 5, 6, 7], [2, 3, 6])])
def footwaylaw09_QueueTells.B1 : List Nat := [0, 1, 0, 0, 8, 24, 60, 3, 255]
theorem footwaylaw09_QueueTells.tab1 : rtab .any (opsOf Try.f5 1) = footwaylaw09_QueueTells.T1 := by kernel_rfl
theorem footwaylaw09_QueueTells.bits1 : waitsOk footwaylaw09_QueueTells.T1.2 footwaylaw09_QueueTells.B1 = true := by kernel_rfl
def footwaylaw09_QueueTells.T7 : Bool × List (List Nat × List Nat) := (true, [([], []), ([0], [0]), ([], []), ([2, 1], [2]), ([1, 3], [1, 3]), ([4, 3], [4]), ([5, 5], [5]), ([6, 5], [5, 6]), ([5, 7], [5, 7])])
def footwaylaw09_QueueTells.B7 : List Nat := [0, 1, 0, 7, 15, 31, 63, 127, 255]
theorem footwaylaw09_QueueTells.tab7 : rtab .any (opsOf Try.f5 7) = footwaylaw09_QueueTells.T7 := by kernel_rfl
theorem footwaylaw09_QueueTells.bits7 : waitsOk footwaylaw09_QueueTells.T7.2 footwaylaw09_QueueTells.B7 = true := by kernel_rfl
def footwaylaw09_QueueTells.T22 : Bool × List (List Nat × List Nat) := (true, [([], []), ([0], [0]), ([1], [1]), ([2], [2]), ([2], [2]), ([4, 2], [2, 4]), ([5, 2], [2, 5]), ([6, 2], [2, 6]), ([3, 7, 2], [2, 3, 7]), ([2, 8], [2, 8]), ([9, 2], [9]), ([10], [10]), ([10], [10]), ([12, 10], [10, 12]), ([10], [10]), ([14, 10], [10, 14]), ([15, 10], [10, 15]), ([10], [10]), ([17, 10], [10, 17]), ([13, 16, 18, 10], [10, 13, 16, 18]), ([11, 19, 10, 10], [10, 11, 19]), ([20, 10], [10, 20]), ([10, 21], [10, 21])])
def footwaylaw09_QueueTells.B22 : List Nat := [0, 1, 3, 7, 7, 23, 55, 119, 255, 511, 1023, 2047, 2047, 6143, 2047, 18431, 51199, 2047, 133119, 522239, 1048575, 2097151, 4194303]
theorem footwaylaw09_QueueTells.tab22 : rtab .any (opsOf Try.f5 22) = footwaylaw09_QueueTells.T22 := by kernel_rfl
theorem footwaylaw09_QueueTells.bits22 : waitsOk footwaylaw09_QueueTells.T22.2 footwaylaw09_QueueTells.B22 = true := by kernel_rfl
end Go.Proofs.Ytnkkedkkjmehpaa.PQu
