/- Lemmas of the kit's print, laid for this seat by its print.sh; what this claim does not use is struck by a program of this session. -/
import Derived.Test.YtfnnngoandpgkaaWInv
import Derived.Test.YtfnnngoandpgkaaWFootNe
namespace Go.Proofs.YtfnnngoandpgkaaW.PrintWords
open Go.RowKit
end Go.Proofs.YtfnnngoandpgkaaW.PrintWords
namespace Go.Proofs.YtfnnngoandpgkaaW.PrintLast
section
variable {ops : Array Oper} {a : Act} {o og : Oper} {g : Nat} {t : Tmp} {u : Bool}
end
end Go.Proofs.YtfnnngoandpgkaaW.PrintLast
