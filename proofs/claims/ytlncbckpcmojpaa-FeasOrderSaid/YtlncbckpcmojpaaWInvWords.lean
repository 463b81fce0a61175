/- Lemmas of the kit's print, laid for this seat by its print.sh; what this claim does not use is struck by a program of this session. -/
import Derived.Test.YtlncbckpcmojpaaWInv
import Derived.Test.YtlncbckpcmojpaaWFootNe
namespace Go.Proofs.YtlncbckpcmojpaaW.PrintWords
open Go.RowKit
end Go.Proofs.YtlncbckpcmojpaaW.PrintWords
namespace Go.Proofs.YtlncbckpcmojpaaW.PrintLast
section
variable {ops : Array Oper} {a : Act} {o og : Oper} {g : Nat} {t : Tmp} {u : Bool}
end
end Go.Proofs.YtlncbckpcmojpaaW.PrintLast
