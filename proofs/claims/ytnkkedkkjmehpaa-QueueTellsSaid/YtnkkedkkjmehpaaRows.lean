/-
  No cell of these rows narrows 'for every input' (looked for: loops, veiled, ifaces, maps, wideKeys, modest, calm, conditions, laid).
  DERIVED. THE GIVEN ROWS OF THIS SEAT. 9 by the template 'for every input the law returns true; each argument reads behind the call as it read before'; 0 by the template 'total and deterministic' (their statements: YtnkkedkkjmehpaaTotals.lean).
  GIVEN WITH THE SEED: the statements are not yours to turn. If you find one false, say at which input.
  Laid BY PROGRAM, IN A SANDBOX (cutbox-rows.mjs): the forced cells as the released guide's own fill.sh prints them over the translation f060baa7cedafde9… (all of the seat's roots in one cut). By AI agents, Wed Nov 11 2026. No macro, syntax, notation, axiom, sorry.
-/
import Derived.Test.YtnkkedkkjmehpaaChecked
import GoSem.Claim
import GoSem.ClaimJoined
import GoSem.ClaimMapViews
import Derived.JoinedTies
import Derived.KernelRfl
namespace Go.Proofs.Ytnkkedkkjmehpaa
/- THE CELL 'sum', in the pinned program and in every row, IS THE sha256 OF THE DUMP (.gsa) THAT YtnkkedkkjmehpaaProg.lean LOADS. Nothing in Lean hashes anything: it is a label: what it is worth is what the hold of that sum in a sandbox is worth. -/
noncomputable def Try.pinned : Pinned := { name := "ytnkkedkkjmehpaa", sum := "f060baa7cedafde95872f375a3504d348bd0cde013e63ae75dd976079bb6f28b", checked := Try.checked }
namespace Rows
def none {H : Type} : Left H := { results := [], args := [] }

/-- 'footwaylaw06.LruUses': WHATEVER THE INPUT: true; the input reads as it did. -/
def lruUsesSpec : ChangeSpec := { name := "lruUses", fn := fun _ => fun
  | [d1, d2] => { results := [.lit (.bool true)], args := [d1, d2] }
  | _ => none }
def lruUsesRow : OpenClaim := { program := "ytnkkedkkjmehpaa", sum := "f060baa7cedafde95872f375a3504d348bd0cde013e63ae75dd976079bb6f28b", func := "footway/footwaylaw06.LruUses", spec := "lruUses", unfollowed := true, recurses := true, apart := false }
def LruUsesSaid : Prop := lruUsesRow.holds Try.pinned (OpenSpec.ofChange lruUsesSpec)

/-- ITS FALSE NEIGHBOUR: 'it returns false'. Refute it at one input. -/
def lruUsesWrong : ChangeSpec := { name := "lruUses", fn := fun _ => fun
  | [d1, d2] => { results := [.lit (.bool false)], args := [d1, d2] }
  | _ => none }
def LruUsesWrongFalsely : Prop := lruUsesRow.holds Try.pinned (OpenSpec.ofChange lruUsesWrong)

/-- 'footwaylaw06.LruDrops': WHATEVER THE INPUT: true; the input reads as it did. -/
def lruDropsSpec : ChangeSpec := { name := "lruDrops", fn := fun _ => fun
  | [d1, d2] => { results := [.lit (.bool true)], args := [d1, d2] }
  | _ => none }
def lruDropsRow : OpenClaim := { program := "ytnkkedkkjmehpaa", sum := "f060baa7cedafde95872f375a3504d348bd0cde013e63ae75dd976079bb6f28b", func := "footway/footwaylaw06.LruDrops", spec := "lruDrops", unfollowed := true, recurses := true, apart := false }
def LruDropsSaid : Prop := lruDropsRow.holds Try.pinned (OpenSpec.ofChange lruDropsSpec)

/-- ITS FALSE NEIGHBOUR: 'it returns false'. Refute it at one input. -/
def lruDropsWrong : ChangeSpec := { name := "lruDrops", fn := fun _ => fun
  | [d1, d2] => { results := [.lit (.bool false)], args := [d1, d2] }
  | _ => none }
def LruDropsWrongFalsely : Prop := lruDropsRow.holds Try.pinned (OpenSpec.ofChange lruDropsWrong)

/-- 'footwaylaw09.QueueTells': WHATEVER THE INPUT: true; the input reads as it did. -/
def queueTellsSpec : ChangeSpec := { name := "queueTells", fn := fun _ => fun
  | [d1, d2, d3] => { results := [.lit (.bool true)], args := [d1, d2, d3] }
  | _ => none }
def queueTellsRow : OpenClaim := { program := "ytnkkedkkjmehpaa", sum := "f060baa7cedafde95872f375a3504d348bd0cde013e63ae75dd976079bb6f28b", func := "footway/footwaylaw09.QueueTells", spec := "queueTells", unfollowed := true, recurses := true, apart := false }
def QueueTellsSaid : Prop := queueTellsRow.holds Try.pinned (OpenSpec.ofChange queueTellsSpec)

/-- ITS FALSE NEIGHBOUR: 'it returns false'. Refute it at one input. -/
def queueTellsWrong : ChangeSpec := { name := "queueTells", fn := fun _ => fun
  | [d1, d2, d3] => { results := [.lit (.bool false)], args := [d1, d2, d3] }
  | _ => none }
def QueueTellsWrongFalsely : Prop := queueTellsRow.holds Try.pinned (OpenSpec.ofChange queueTellsWrong)

/-- 'footwaylaw09.QueueOrder': WHATEVER THE INPUT: true; the input reads as it did. -/
def queueOrderSpec : ChangeSpec := { name := "queueOrder", fn := fun _ => fun
  | [d1, d2] => { results := [.lit (.bool true)], args := [d1, d2] }
  | _ => none }
def queueOrderRow : OpenClaim := { program := "ytnkkedkkjmehpaa", sum := "f060baa7cedafde95872f375a3504d348bd0cde013e63ae75dd976079bb6f28b", func := "footway/footwaylaw09.QueueOrder", spec := "queueOrder", unfollowed := true, recurses := true, apart := false }
def QueueOrderSaid : Prop := queueOrderRow.holds Try.pinned (OpenSpec.ofChange queueOrderSpec)

/-- ITS FALSE NEIGHBOUR: 'it returns false'. Refute it at one input. -/
def queueOrderWrong : ChangeSpec := { name := "queueOrder", fn := fun _ => fun
  | [d1, d2] => { results := [.lit (.bool false)], args := [d1, d2] }
  | _ => none }
def QueueOrderWrongFalsely : Prop := queueOrderRow.holds Try.pinned (OpenSpec.ofChange queueOrderWrong)

/-- 'footwaylaw13.RelayNever': WHATEVER THE INPUT: true; the input reads as it did. -/
def relayNeverSpec : ChangeSpec := { name := "relayNever", fn := fun _ => fun
  | [d1, d2, d3, d4] => { results := [.lit (.bool true)], args := [d1, d2, d3, d4] }
  | _ => none }
def relayNeverRow : OpenClaim := { program := "ytnkkedkkjmehpaa", sum := "f060baa7cedafde95872f375a3504d348bd0cde013e63ae75dd976079bb6f28b", func := "footway/footwaylaw13.RelayNever", spec := "relayNever", unfollowed := true, recurses := true, apart := false }
def RelayNeverSaid : Prop := relayNeverRow.holds Try.pinned (OpenSpec.ofChange relayNeverSpec)

/-- ITS FALSE NEIGHBOUR: 'it returns false'. Refute it at one input. -/
def relayNeverWrong : ChangeSpec := { name := "relayNever", fn := fun _ => fun
  | [d1, d2, d3, d4] => { results := [.lit (.bool false)], args := [d1, d2, d3, d4] }
  | _ => none }
def RelayNeverWrongFalsely : Prop := relayNeverRow.holds Try.pinned (OpenSpec.ofChange relayNeverWrong)

/-- 'footwaylaw13.RelayBoth': WHATEVER THE INPUT: true; the input reads as it did. -/
def relayBothSpec : ChangeSpec := { name := "relayBoth", fn := fun _ => fun
  | [d1, d2, d3] => { results := [.lit (.bool true)], args := [d1, d2, d3] }
  | _ => none }
def relayBothRow : OpenClaim := { program := "ytnkkedkkjmehpaa", sum := "f060baa7cedafde95872f375a3504d348bd0cde013e63ae75dd976079bb6f28b", func := "footway/footwaylaw13.RelayBoth", spec := "relayBoth", unfollowed := true, recurses := true, apart := false }
def RelayBothSaid : Prop := relayBothRow.holds Try.pinned (OpenSpec.ofChange relayBothSpec)

/-- ITS FALSE NEIGHBOUR: 'it returns false'. Refute it at one input. -/
def relayBothWrong : ChangeSpec := { name := "relayBoth", fn := fun _ => fun
  | [d1, d2, d3] => { results := [.lit (.bool false)], args := [d1, d2, d3] }
  | _ => none }
def RelayBothWrongFalsely : Prop := relayBothRow.holds Try.pinned (OpenSpec.ofChange relayBothWrong)

/-- 'footwaylaw06.LruTrims': WHATEVER THE INPUT: true; the input reads as it did. -/
def lruTrimsSpec : ChangeSpec := { name := "lruTrims", fn := fun _ => fun
  | [d1, d2, d3] => { results := [.lit (.bool true)], args := [d1, d2, d3] }
  | _ => none }
def lruTrimsRow : OpenClaim := { program := "ytnkkedkkjmehpaa", sum := "f060baa7cedafde95872f375a3504d348bd0cde013e63ae75dd976079bb6f28b", func := "footway/footwaylaw06.LruTrims", spec := "lruTrims", unfollowed := true, recurses := true, apart := false }
def LruTrimsSaid : Prop := lruTrimsRow.holds Try.pinned (OpenSpec.ofChange lruTrimsSpec)

/-- ITS FALSE NEIGHBOUR: 'it returns false'. Refute it at one input. -/
def lruTrimsWrong : ChangeSpec := { name := "lruTrims", fn := fun _ => fun
  | [d1, d2, d3] => { results := [.lit (.bool false)], args := [d1, d2, d3] }
  | _ => none }
def LruTrimsWrongFalsely : Prop := lruTrimsRow.holds Try.pinned (OpenSpec.ofChange lruTrimsWrong)

/-- 'footwaylaw13.RelayTells': WHATEVER THE INPUT: true; the input reads as it did. -/
def relayTellsSpec : ChangeSpec := { name := "relayTells", fn := fun _ => fun
  | [d1, d2, d3, d4] => { results := [.lit (.bool true)], args := [d1, d2, d3, d4] }
  | _ => none }
def relayTellsRow : OpenClaim := { program := "ytnkkedkkjmehpaa", sum := "f060baa7cedafde95872f375a3504d348bd0cde013e63ae75dd976079bb6f28b", func := "footway/footwaylaw13.RelayTells", spec := "relayTells", unfollowed := true, recurses := true, apart := false }
def RelayTellsSaid : Prop := relayTellsRow.holds Try.pinned (OpenSpec.ofChange relayTellsSpec)

/-- ITS FALSE NEIGHBOUR: 'it returns false'. Refute it at one input. -/
def relayTellsWrong : ChangeSpec := { name := "relayTells", fn := fun _ => fun
  | [d1, d2, d3, d4] => { results := [.lit (.bool false)], args := [d1, d2, d3, d4] }
  | _ => none }
def RelayTellsWrongFalsely : Prop := relayTellsRow.holds Try.pinned (OpenSpec.ofChange relayTellsWrong)

/-- 'footwaylaw06.LruTells': WHATEVER THE INPUT: true; the input reads as it did. -/
def lruTellsSpec : ChangeSpec := { name := "lruTells", fn := fun _ => fun
  | [d1, d2, d3] => { results := [.lit (.bool true)], args := [d1, d2, d3] }
  | _ => none }
def lruTellsRow : OpenClaim := { program := "ytnkkedkkjmehpaa", sum := "f060baa7cedafde95872f375a3504d348bd0cde013e63ae75dd976079bb6f28b", func := "footway/footwaylaw06.LruTells", spec := "lruTells", unfollowed := true, recurses := true, apart := false }
def LruTellsSaid : Prop := lruTellsRow.holds Try.pinned (OpenSpec.ofChange lruTellsSpec)

/-- ITS FALSE NEIGHBOUR: 'it returns false'. Refute it at one input. -/
def lruTellsWrong : ChangeSpec := { name := "lruTells", fn := fun _ => fun
  | [d1, d2, d3] => { results := [.lit (.bool false)], args := [d1, d2, d3] }
  | _ => none }
def LruTellsWrongFalsely : Prop := lruTellsRow.holds Try.pinned (OpenSpec.ofChange lruTellsWrong)

/- THE SECOND FORM. 'bulk': how many values and letters a reading holds, each counted each time it is reached (what is shared counts as often as it is met; a slice's spare places count too). A statement '..UptoSaid' is the law's where the arguments, and the package variables that the reading takes, are together of bulk at most 1048576: NARROWER than '..Said'. Prove '..Said' where nothing that the law and all that it calls make is longer than what came in: it says more and counts as full. Else prove '..UptoSaid'. A law counts once. -/
mutual
def uptoBulk {H : Type} : DataW H → Nat
  | .lit (.string bytes) => bytes.length + 1
  | .lit _ => 1
  | .nil => 1
  | .ptr d => uptoBulk d + 1
  | .slice elems spare => uptoBulkAll elems + uptoBulkAll spare + 1
  | .agg parts => uptoBulkAll parts + 1
  | .iface _ d => uptoBulk d + 1
  | .map entries => uptoBulkEntries entries + 1
  | .held _ => 1
def uptoBulkAll {H : Type} : List (DataW H) → Nat
  | [] => 0
  | d :: r => uptoBulk d + uptoBulkAll r
def uptoBulkEntries {H : Type} : List (Lit × DataW H) → Nat
  | [] => 0
  | x :: r => uptoBulkEntry x + uptoBulkEntries r
def uptoBulkEntry {H : Type} : Lit × DataW H → Nat
  | (.string bytes, d) => bytes.length + uptoBulk d + 1
  | (_, d) => uptoBulk d + 1
 end
def uptoSmall : (H : Type) → List (DataW H) → Bool := fun _ ds => decide (uptoBulkAll ds ≤ 1048576)
def OpenSpec.upto (s : _root_.Go.ChangeSpec) : _root_.Go.OpenSpec := { _root_.Go.OpenSpec.ofChange s with cond := some uptoSmall }

/-- 'footwaylaw06.LruUses', WHERE WHAT IT READS IS OF BULK AT MOST 1048576: true; the input reads as it did. -/
def lruUsesUptoRow : OpenClaim := { program := "ytnkkedkkjmehpaa", sum := "f060baa7cedafde95872f375a3504d348bd0cde013e63ae75dd976079bb6f28b", func := "footway/footwaylaw06.LruUses", spec := "lruUses", unfollowed := true, recurses := true, apart := false, narrowed := true }
def LruUsesUptoSaid : Prop := lruUsesUptoRow.holds Try.pinned (OpenSpec.upto lruUsesSpec)

/-- 'footwaylaw06.LruDrops', WHERE WHAT IT READS IS OF BULK AT MOST 1048576: true; the input reads as it did. -/
def lruDropsUptoRow : OpenClaim := { program := "ytnkkedkkjmehpaa", sum := "f060baa7cedafde95872f375a3504d348bd0cde013e63ae75dd976079bb6f28b", func := "footway/footwaylaw06.LruDrops", spec := "lruDrops", unfollowed := true, recurses := true, apart := false, narrowed := true }
def LruDropsUptoSaid : Prop := lruDropsUptoRow.holds Try.pinned (OpenSpec.upto lruDropsSpec)

/-- 'footwaylaw09.QueueTells', WHERE WHAT IT READS IS OF BULK AT MOST 1048576: true; the input reads as it did. -/
def queueTellsUptoRow : OpenClaim := { program := "ytnkkedkkjmehpaa", sum := "f060baa7cedafde95872f375a3504d348bd0cde013e63ae75dd976079bb6f28b", func := "footway/footwaylaw09.QueueTells", spec := "queueTells", unfollowed := true, recurses := true, apart := false, narrowed := true }
def QueueTellsUptoSaid : Prop := queueTellsUptoRow.holds Try.pinned (OpenSpec.upto queueTellsSpec)

/-- 'footwaylaw09.QueueOrder', WHERE WHAT IT READS IS OF BULK AT MOST 1048576: true; the input reads as it did. -/
def queueOrderUptoRow : OpenClaim := { program := "ytnkkedkkjmehpaa", sum := "f060baa7cedafde95872f375a3504d348bd0cde013e63ae75dd976079bb6f28b", func := "footway/footwaylaw09.QueueOrder", spec := "queueOrder", unfollowed := true, recurses := true, apart := false, narrowed := true }
def QueueOrderUptoSaid : Prop := queueOrderUptoRow.holds Try.pinned (OpenSpec.upto queueOrderSpec)

/-- 'footwaylaw13.RelayNever', WHERE WHAT IT READS IS OF BULK AT MOST 1048576: true; the input reads as it did. -/
def relayNeverUptoRow : OpenClaim := { program := "ytnkkedkkjmehpaa", sum := "f060baa7cedafde95872f375a3504d348bd0cde013e63ae75dd976079bb6f28b", func := "footway/footwaylaw13.RelayNever", spec := "relayNever", unfollowed := true, recurses := true, apart := false, narrowed := true }
def RelayNeverUptoSaid : Prop := relayNeverUptoRow.holds Try.pinned (OpenSpec.upto relayNeverSpec)

/-- 'footwaylaw13.RelayBoth', WHERE WHAT IT READS IS OF BULK AT MOST 1048576: true; the input reads as it did. -/
def relayBothUptoRow : OpenClaim := { program := "ytnkkedkkjmehpaa", sum := "f060baa7cedafde95872f375a3504d348bd0cde013e63ae75dd976079bb6f28b", func := "footway/footwaylaw13.RelayBoth", spec := "relayBoth", unfollowed := true, recurses := true, apart := false, narrowed := true }
def RelayBothUptoSaid : Prop := relayBothUptoRow.holds Try.pinned (OpenSpec.upto relayBothSpec)

/-- 'footwaylaw06.LruTrims', WHERE WHAT IT READS IS OF BULK AT MOST 1048576: true; the input reads as it did. -/
def lruTrimsUptoRow : OpenClaim := { program := "ytnkkedkkjmehpaa", sum := "f060baa7cedafde95872f375a3504d348bd0cde013e63ae75dd976079bb6f28b", func := "footway/footwaylaw06.LruTrims", spec := "lruTrims", unfollowed := true, recurses := true, apart := false, narrowed := true }
def LruTrimsUptoSaid : Prop := lruTrimsUptoRow.holds Try.pinned (OpenSpec.upto lruTrimsSpec)

/-- 'footwaylaw13.RelayTells', WHERE WHAT IT READS IS OF BULK AT MOST 1048576: true; the input reads as it did. -/
def relayTellsUptoRow : OpenClaim := { program := "ytnkkedkkjmehpaa", sum := "f060baa7cedafde95872f375a3504d348bd0cde013e63ae75dd976079bb6f28b", func := "footway/footwaylaw13.RelayTells", spec := "relayTells", unfollowed := true, recurses := true, apart := false, narrowed := true }
def RelayTellsUptoSaid : Prop := relayTellsUptoRow.holds Try.pinned (OpenSpec.upto relayTellsSpec)

/-- 'footwaylaw06.LruTells', WHERE WHAT IT READS IS OF BULK AT MOST 1048576: true; the input reads as it did. -/
def lruTellsUptoRow : OpenClaim := { program := "ytnkkedkkjmehpaa", sum := "f060baa7cedafde95872f375a3504d348bd0cde013e63ae75dd976079bb6f28b", func := "footway/footwaylaw06.LruTells", spec := "lruTells", unfollowed := true, recurses := true, apart := false, narrowed := true }
def LruTellsUptoSaid : Prop := lruTellsUptoRow.holds Try.pinned (OpenSpec.upto lruTellsSpec)

end Rows
end Go.Proofs.Ytnkkedkkjmehpaa
