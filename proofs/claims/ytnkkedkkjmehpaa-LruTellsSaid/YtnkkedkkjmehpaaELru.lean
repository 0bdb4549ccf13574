/- The contracts of lru.Right and order.without (by hand), in the form that the printed texts of the laws ask; of at most 1000 numbers of 64 bits. -/
import Derived.Test.YtnkkedkkjmehpaaWo
import Derived.Test.YtnkkedkkjmehpaaRi
namespace Go.Proofs.Ytnkkedkkjmehpaa.ELru
open Go.RowKit Go.Proofs.YtnkkedkkjmehpaaW.PrintWords Go.Proofs.YtnkkedkkjmehpaaW.PrintLast Go.Proofs.YtnkkedkkjmehpaaW.PrintMore
set_option linter.unusedVariables false
set_option linter.unusedSimpArgs false

def lru_Right.f (l0 : List Int) : Option Bool := if l0.length ≤ 1000 ∧ l0.all in64B = true then some (rightB l0) else none
def lru_order_int_without.f (l0 : List Int) (a1 : Int) : Option (List Int) := if l0.length ≤ 1000 then some (l0.filter (fun x => !(x == a1))) else none

theorem lru_Right.calls (A0 : Option Addr) (c0 : Nat) (l0 : List Int) (r : Bool) (w : World) (hr0 : Kd.C (Kd.int .i64) w A0 l0.length l0) (hc0 : l0.length ≤ c0) (h : lru_Right.f l0 = some r) :
    Calls Try.prog 13 #[.slice A0 l0.length c0] w fun e w' => e = .returned (.bool r) ∧ Below w.heap.size w w' := by
  unfold lru_Right.f at h
  split at h
  · rename_i hh
    obtain rfl := Option.some.inj h
    exact right_any A0 c0 l0 w hr0 hc0 hh.1 (List.all_eq_true.1 hh.2)
  · cases h
theorem lru_order_int_without.calls (A0 : Option Addr) (c0 : Nat) (l0 : List Int) (a1 : Int) (r : List Int) (w : World) (hr0 : Kd.C (Kd.int .i64) w A0 l0.length l0) (_hc0 : l0.length ≤ c0) (h : lru_order_int_without.f l0 a1 = some r) :
    Calls Try.prog 46 #[.slice A0 l0.length c0, .int .i64 a1] w fun e w' => ∃ v0_ : Value, e = .returned (v0_) ∧ Kd.R (Kd.int .i64) 3 w' w.heap.size (fun _ => True) v0_ r ∧ Below w.heap.size w w' := by
  unfold lru_order_int_without.f at h
  split at h
  · obtain rfl := Option.some.inj h
    exact without_any A0 c0 l0 a1 w hr0 (by assumption)
  · cases h
end Go.Proofs.Ytnkkedkkjmehpaa.ELru
