-- Out of the print's words: what this claim names of them (cut by a program of this session).
import Derived.Test.YtnkkedkkjmehpaaWWords
import Derived.Laws.StructEq
/-! ### 53. '==' of structs as_ one Bool -/
namespace Go.Proofs.YtnkkedkkjmehpaaW.PrintWords
open Go.RowKit
section
variable {P : Program} {d : Nat} {xs ys : Array Value} {f : Field} {fs : List Field} {a b : Value} {r s : Bool} {w : World}
end
end Go.Proofs.YtnkkedkkjmehpaaW.PrintWords
