/- Lemmas of the kit's print, laid for this seat by its print.sh; what this claim does not use is struck by a program of this session. -/
import Derived.Test.YtlncbckpcmojpaaWTab
/-! ### 56. Four, five, six operations that may come up next, in any order -/
namespace Go.Proofs.YtlncbckpcmojpaaW.PrintLast
section
variable {P : Program} {ops : Array Oper} {Q : Exit → Act → World → Prop} {md : Region.Mode} {S : World → Prop} {ds : List Nat} {T : Bool × List (List Nat × List Nat)}
end
end Go.Proofs.YtlncbckpcmojpaaW.PrintLast
