-- Out of the print's words: what this claim names of them (cut by a program of this session).
import Derived.Test.YtnkkedkkjmehpaaWInv
import Derived.Test.YtnkkedkkjmehpaaWFootNe
namespace Go.Proofs.YtnkkedkkjmehpaaW.PrintWords
open Go.RowKit
end Go.Proofs.YtnkkedkkjmehpaaW.PrintWords
namespace Go.Proofs.YtnkkedkkjmehpaaW.PrintLast
section
variable {ops : Array Oper} {a : Act} {o og : Oper} {g : Nat} {t : Tmp} {u : Bool}
end
end Go.Proofs.YtnkkedkkjmehpaaW.PrintLast
