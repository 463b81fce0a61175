/- Lemmas of the kit's print, laid for this seat by its print.sh; what this claim does not use is struck by a program of this session. -/
import Derived.Test.YtlncbckpcmojpaaWN
/-! ### 52. A row that stays read whatever happens to a block (a set of blocks) doesn't lie there -/
namespace Go.Proofs.YtlncbckpcmojpaaW.PrintWords
open Go.RowKit
namespace Kd
section
variable {α : Type} {d : Kd α} {W : World} {g n : Nat} {S ok : Nat → Prop} {A : Option Addr} {ad : Addr} {xs : List α}
end
end Kd
end Go.Proofs.YtlncbckpcmojpaaW.PrintWords
