/-
  No cell of these rows narrows 'for every input' (looked for: loops, veiled, ifaces, maps, wideKeys, modest, calm, conditions, laid).
  DERIVED. THE GIVEN ROWS OF THIS SEAT. 4 by the template 'for every input the law returns true; each argument reads behind the call as it read before'; 0 by the template 'total and deterministic' (their statements: YtnkhkjdmdjldaaaTotals.lean).
  GIVEN WITH THE SEED: the statements are not yours to turn. If you find one false, say at which input.
  Laid BY PROGRAM, IN A SANDBOX (cutbox-rows.mjs): the forced cells as the released guide's own fill.sh prints them over the translation 680a098e4c9c17c2… (all of the seat's roots in one cut). By AI agents, Wed Nov 11 2026. No macro, syntax, notation, axiom, sorry.
-/
import Derived.Test.YtnkhkjdmdjldaaaChecked
import GoSem.Claim
import GoSem.ClaimJoined
import GoSem.ClaimMapViews
import Derived.JoinedTies
import Derived.KernelRfl
namespace Go.Proofs.Ytnkhkjdmdjldaaa
/- THE CELL 'sum', in the pinned program and in every row, IS THE sha256 OF THE DUMP (.gsa) THAT YtnkhkjdmdjldaaaProg.lean LOADS. Nothing in Lean hashes anything: it is a label: what it is worth is what the hold of that sum in a sandbox is worth. -/
noncomputable def Try.pinned : Pinned := { name := "ytnkhkjdmdjldaaa", sum := "680a098e4c9c17c2419601dcf1b0076eec1e52a08b82da087d832d9951b8da59", checked := Try.checked }
namespace Rows
def none {H : Type} : Left H := { results := [], args := [] }

/-- 'entrepotlaw05.RootSquares': WHATEVER THE INPUT: true; the input reads as it did. -/
def rootSquaresSpec : ChangeSpec := { name := "rootSquares", fn := fun _ => fun
  | [d1, d2] => { results := [.lit (.bool true)], args := [d1, d2] }
  | _ => none }
def rootSquaresRow : OpenClaim := { program := "ytnkhkjdmdjldaaa", sum := "680a098e4c9c17c2419601dcf1b0076eec1e52a08b82da087d832d9951b8da59", func := "entrepot/entrepotlaw05.RootSquares", spec := "rootSquares", unfollowed := true, recurses := true, apart := false }
def RootSquaresSaid : Prop := rootSquaresRow.holds Try.pinned (OpenSpec.ofChange rootSquaresSpec)

/-- ITS FALSE NEIGHBOUR: 'it returns false'. Refute it at one input. -/
def rootSquaresWrong : ChangeSpec := { name := "rootSquares", fn := fun _ => fun
  | [d1, d2] => { results := [.lit (.bool false)], args := [d1, d2] }
  | _ => none }
def RootSquaresWrongFalsely : Prop := rootSquaresRow.holds Try.pinned (OpenSpec.ofChange rootSquaresWrong)

/-- 'entrepotlaw05.RootBounds': WHATEVER THE INPUT: true; the input reads as it did. -/
def rootBoundsSpec : ChangeSpec := { name := "rootBounds", fn := fun _ => fun
  | [d] => { results := [.lit (.bool true)], args := [d] }
  | _ => none }
def rootBoundsRow : OpenClaim := { program := "ytnkhkjdmdjldaaa", sum := "680a098e4c9c17c2419601dcf1b0076eec1e52a08b82da087d832d9951b8da59", func := "entrepot/entrepotlaw05.RootBounds", spec := "rootBounds", unfollowed := true, recurses := true, apart := false }
def RootBoundsSaid : Prop := rootBoundsRow.holds Try.pinned (OpenSpec.ofChange rootBoundsSpec)

/-- ITS FALSE NEIGHBOUR: 'it returns false'. Refute it at one input. -/
def rootBoundsWrong : ChangeSpec := { name := "rootBounds", fn := fun _ => fun
  | [d] => { results := [.lit (.bool false)], args := [d] }
  | _ => none }
def RootBoundsWrongFalsely : Prop := rootBoundsRow.holds Try.pinned (OpenSpec.ofChange rootBoundsWrong)

/-- 'entrepotlaw05.RootBetween': WHATEVER THE INPUT: true; the input reads as it did. -/
def rootBetweenSpec : ChangeSpec := { name := "rootBetween", fn := fun _ => fun
  | [d1, d2] => { results := [.lit (.bool true)], args := [d1, d2] }
  | _ => none }
def rootBetweenRow : OpenClaim := { program := "ytnkhkjdmdjldaaa", sum := "680a098e4c9c17c2419601dcf1b0076eec1e52a08b82da087d832d9951b8da59", func := "entrepot/entrepotlaw05.RootBetween", spec := "rootBetween", unfollowed := true, recurses := true, apart := false }
def RootBetweenSaid : Prop := rootBetweenRow.holds Try.pinned (OpenSpec.ofChange rootBetweenSpec)

/-- ITS FALSE NEIGHBOUR: 'it returns false'. Refute it at one input. -/
def rootBetweenWrong : ChangeSpec := { name := "rootBetween", fn := fun _ => fun
  | [d1, d2] => { results := [.lit (.bool false)], args := [d1, d2] }
  | _ => none }
def RootBetweenWrongFalsely : Prop := rootBetweenRow.holds Try.pinned (OpenSpec.ofChange rootBetweenWrong)

/-- 'entrepotlaw05.RootTens': WHATEVER THE INPUT: true; the input reads as it did. -/
def rootTensSpec : ChangeSpec := { name := "rootTens", fn := fun _ => fun
  | [d1, d2] => { results := [.lit (.bool true)], args := [d1, d2] }
  | _ => none }
def rootTensRow : OpenClaim := { program := "ytnkhkjdmdjldaaa", sum := "680a098e4c9c17c2419601dcf1b0076eec1e52a08b82da087d832d9951b8da59", func := "entrepot/entrepotlaw05.RootTens", spec := "rootTens", unfollowed := true, recurses := true, apart := false }
def RootTensSaid : Prop := rootTensRow.holds Try.pinned (OpenSpec.ofChange rootTensSpec)

/-- ITS FALSE NEIGHBOUR: 'it returns false'. Refute it at one input. -/
def rootTensWrong : ChangeSpec := { name := "rootTens", fn := fun _ => fun
  | [d1, d2] => { results := [.lit (.bool false)], args := [d1, d2] }
  | _ => none }
def RootTensWrongFalsely : Prop := rootTensRow.holds Try.pinned (OpenSpec.ofChange rootTensWrong)

/- THE SECOND FORM. 'bulk': how many values and letters a reading holds, each counted each time it is reached (what is shared counts as often as it is met; a slice's spare places count too). A statement '..UptoSaid' is the law's where the arguments, and the package variables that the reading takes, are together of bulk at most 1048576: NARROWER than '..Said'. Prove '..Said' where nothing that the law and all that it calls make is longer than what came in: it says more and counts as full. Else prove '..UptoSaid'. A law counts once. -/
mutual
def uptoBulk {H : Type} : DataW H → Nat
  | .lit (.string bytes) => bytes.length + 1
  | .lit _ => 1
  | .nil => 1
  | .ptr d => uptoBulk d + 1
  | .slice elems spare => uptoBulkAll elems + uptoBulkAll spare + 1
  | .agg parts => uptoBulkAll parts + 1
  | .iface _ d => uptoBulk d + 1
  | .map entries => uptoBulkEntries entries + 1
  | .held _ => 1
def uptoBulkAll {H : Type} : List (DataW H) → Nat
  | [] => 0
  | d :: r => uptoBulk d + uptoBulkAll r
def uptoBulkEntries {H : Type} : List (Lit × DataW H) → Nat
  | [] => 0
  | x :: r => uptoBulkEntry x + uptoBulkEntries r
def uptoBulkEntry {H : Type} : Lit × DataW H → Nat
  | (.string bytes, d) => bytes.length + uptoBulk d + 1
  | (_, d) => uptoBulk d + 1
 end
def uptoSmall : (H : Type) → List (DataW H) → Bool := fun _ ds => decide (uptoBulkAll ds ≤ 1048576)
def OpenSpec.upto (s : _root_.Go.ChangeSpec) : _root_.Go.OpenSpec := { _root_.Go.OpenSpec.ofChange s with cond := some uptoSmall }

/-- 'entrepotlaw05.RootSquares', WHERE WHAT IT READS IS OF BULK AT MOST 1048576: true; the input reads as it did. -/
def rootSquaresUptoRow : OpenClaim := { program := "ytnkhkjdmdjldaaa", sum := "680a098e4c9c17c2419601dcf1b0076eec1e52a08b82da087d832d9951b8da59", func := "entrepot/entrepotlaw05.RootSquares", spec := "rootSquares", unfollowed := true, recurses := true, apart := false, narrowed := true }
def RootSquaresUptoSaid : Prop := rootSquaresUptoRow.holds Try.pinned (OpenSpec.upto rootSquaresSpec)

/-- 'entrepotlaw05.RootBounds', WHERE WHAT IT READS IS OF BULK AT MOST 1048576: true; the input reads as it did. -/
def rootBoundsUptoRow : OpenClaim := { program := "ytnkhkjdmdjldaaa", sum := "680a098e4c9c17c2419601dcf1b0076eec1e52a08b82da087d832d9951b8da59", func := "entrepot/entrepotlaw05.RootBounds", spec := "rootBounds", unfollowed := true, recurses := true, apart := false, narrowed := true }
def RootBoundsUptoSaid : Prop := rootBoundsUptoRow.holds Try.pinned (OpenSpec.upto rootBoundsSpec)

/-- 'entrepotlaw05.RootBetween', WHERE WHAT IT READS IS OF BULK AT MOST 1048576: true; the input reads as it did. -/
def rootBetweenUptoRow : OpenClaim := { program := "ytnkhkjdmdjldaaa", sum := "680a098e4c9c17c2419601dcf1b0076eec1e52a08b82da087d832d9951b8da59", func := "entrepot/entrepotlaw05.RootBetween", spec := "rootBetween", unfollowed := true, recurses := true, apart := false, narrowed := true }
def RootBetweenUptoSaid : Prop := rootBetweenUptoRow.holds Try.pinned (OpenSpec.upto rootBetweenSpec)

/-- 'entrepotlaw05.RootTens', WHERE WHAT IT READS IS OF BULK AT MOST 1048576: true; the input reads as it did. -/
def rootTensUptoRow : OpenClaim := { program := "ytnkhkjdmdjldaaa", sum := "680a098e4c9c17c2419601dcf1b0076eec1e52a08b82da087d832d9951b8da59", func := "entrepot/entrepotlaw05.RootTens", spec := "rootTens", unfollowed := true, recurses := true, apart := false, narrowed := true }
def RootTensUptoSaid : Prop := rootTensUptoRow.holds Try.pinned (OpenSpec.upto rootTensSpec)

end Rows
end Go.Proofs.Ytnkhkjdmdjldaaa
