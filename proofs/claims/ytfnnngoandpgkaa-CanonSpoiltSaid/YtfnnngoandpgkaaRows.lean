/-
  No cell of these rows narrows 'for every input' (looked for: loops, veiled, ifaces, maps, wideKeys, modest, calm, conditions, laid).
  DERIVED. THE GIVEN ROWS OF THIS SEAT. 6 by the template 'for every input the law returns true; each argument reads behind the call as it read before'; 0 by the template 'total and deterministic' (their statements: YtfnnngoandpgkaaTotals.lean).
  GIVEN WITH THE SEED: the statements are not yours to turn. If you find one false, say at which input.
  Laid BY PROGRAM, IN A SANDBOX (cutbox-rows.mjs): the forced cells as the released guide's own fill.sh prints them over the translation 690c88a93c71a16f… (all of the seat's roots in one cut). By AI agents, Wed Nov 11 2026. No macro, syntax, notation, axiom, sorry.
-/
import Derived.Test.YtfnnngoandpgkaaChecked
import GoSem.Claim
import GoSem.ClaimJoined
import GoSem.ClaimMapViews
import Derived.JoinedTies
import Derived.KernelRfl
namespace Go.Proofs.Ytfnnngoandpgkaa
/- THE CELL 'sum', in the pinned program and in every row, IS THE sha256 OF THE DUMP (.gsa) THAT YtfnnngoandpgkaaProg.lean LOADS. Nothing in Lean hashes anything: it is a label: what it is worth is what the hold of that sum in a sandbox is worth. -/
noncomputable def Try.pinned : Pinned := { name := "ytfnnngoandpgkaa", sum := "690c88a93c71a16f00c036db8362be153f53342d4512d4afa9dc0dfbcf3ea331", checked := Try.checked }
namespace Rows
def none {H : Type} : Left H := { results := [], args := [] }

/-- 'entrepotlaw08.CanonChecks': WHATEVER THE INPUT: true; the input reads as it did. -/
def canonChecksSpec : ChangeSpec := { name := "canonChecks", fn := fun _ => fun
  | [d] => { results := [.lit (.bool true)], args := [d] }
  | _ => none }
def canonChecksRow : OpenClaim := { program := "ytfnnngoandpgkaa", sum := "690c88a93c71a16f00c036db8362be153f53342d4512d4afa9dc0dfbcf3ea331", func := "entrepot/entrepotlaw08.CanonChecks", spec := "canonChecks", unfollowed := true, recurses := true, apart := false }
def CanonChecksSaid : Prop := canonChecksRow.holds Try.pinned (OpenSpec.ofChange canonChecksSpec)

/-- ITS FALSE NEIGHBOUR: 'it returns false'. Refute it at one input. -/
def canonChecksWrong : ChangeSpec := { name := "canonChecks", fn := fun _ => fun
  | [d] => { results := [.lit (.bool false)], args := [d] }
  | _ => none }
def CanonChecksWrongFalsely : Prop := canonChecksRow.holds Try.pinned (OpenSpec.ofChange canonChecksWrong)

/-- 'entrepotlaw08.CanonNorms': WHATEVER THE INPUT: true; the input reads as it did. -/
def canonNormsSpec : ChangeSpec := { name := "canonNorms", fn := fun _ => fun
  | [d1, d2] => { results := [.lit (.bool true)], args := [d1, d2] }
  | _ => none }
def canonNormsRow : OpenClaim := { program := "ytfnnngoandpgkaa", sum := "690c88a93c71a16f00c036db8362be153f53342d4512d4afa9dc0dfbcf3ea331", func := "entrepot/entrepotlaw08.CanonNorms", spec := "canonNorms", unfollowed := true, recurses := true, apart := false }
def CanonNormsSaid : Prop := canonNormsRow.holds Try.pinned (OpenSpec.ofChange canonNormsSpec)

/-- ITS FALSE NEIGHBOUR: 'it returns false'. Refute it at one input. -/
def canonNormsWrong : ChangeSpec := { name := "canonNorms", fn := fun _ => fun
  | [d1, d2] => { results := [.lit (.bool false)], args := [d1, d2] }
  | _ => none }
def CanonNormsWrongFalsely : Prop := canonNormsRow.holds Try.pinned (OpenSpec.ofChange canonNormsWrong)

/-- 'entrepotlaw08.CanonNormal': WHATEVER THE INPUT: true; the input reads as it did. -/
def canonNormalSpec : ChangeSpec := { name := "canonNormal", fn := fun _ => fun
  | [d] => { results := [.lit (.bool true)], args := [d] }
  | _ => none }
def canonNormalRow : OpenClaim := { program := "ytfnnngoandpgkaa", sum := "690c88a93c71a16f00c036db8362be153f53342d4512d4afa9dc0dfbcf3ea331", func := "entrepot/entrepotlaw08.CanonNormal", spec := "canonNormal", unfollowed := true, recurses := true, apart := false }
def CanonNormalSaid : Prop := canonNormalRow.holds Try.pinned (OpenSpec.ofChange canonNormalSpec)

/-- ITS FALSE NEIGHBOUR: 'it returns false'. Refute it at one input. -/
def canonNormalWrong : ChangeSpec := { name := "canonNormal", fn := fun _ => fun
  | [d] => { results := [.lit (.bool false)], args := [d] }
  | _ => none }
def CanonNormalWrongFalsely : Prop := canonNormalRow.holds Try.pinned (OpenSpec.ofChange canonNormalWrong)

/-- 'entrepotlaw08.CanonScaled': WHATEVER THE INPUT: true; the input reads as it did. -/
def canonScaledSpec : ChangeSpec := { name := "canonScaled", fn := fun _ => fun
  | [d] => { results := [.lit (.bool true)], args := [d] }
  | _ => none }
def canonScaledRow : OpenClaim := { program := "ytfnnngoandpgkaa", sum := "690c88a93c71a16f00c036db8362be153f53342d4512d4afa9dc0dfbcf3ea331", func := "entrepot/entrepotlaw08.CanonScaled", spec := "canonScaled", unfollowed := true, recurses := true, apart := false }
def CanonScaledSaid : Prop := canonScaledRow.holds Try.pinned (OpenSpec.ofChange canonScaledSpec)

/-- ITS FALSE NEIGHBOUR: 'it returns false'. Refute it at one input. -/
def canonScaledWrong : ChangeSpec := { name := "canonScaled", fn := fun _ => fun
  | [d] => { results := [.lit (.bool false)], args := [d] }
  | _ => none }
def CanonScaledWrongFalsely : Prop := canonScaledRow.holds Try.pinned (OpenSpec.ofChange canonScaledWrong)

/-- 'entrepotlaw08.CanonSpoilt': WHATEVER THE INPUT: true; the input reads as it did. -/
def canonSpoiltSpec : ChangeSpec := { name := "canonSpoilt", fn := fun _ => fun
  | [d1, d2, d3] => { results := [.lit (.bool true)], args := [d1, d2, d3] }
  | _ => none }
def canonSpoiltRow : OpenClaim := { program := "ytfnnngoandpgkaa", sum := "690c88a93c71a16f00c036db8362be153f53342d4512d4afa9dc0dfbcf3ea331", func := "entrepot/entrepotlaw08.CanonSpoilt", spec := "canonSpoilt", unfollowed := true, recurses := true, apart := false }
def CanonSpoiltSaid : Prop := canonSpoiltRow.holds Try.pinned (OpenSpec.ofChange canonSpoiltSpec)

/-- ITS FALSE NEIGHBOUR: 'it returns false'. Refute it at one input. -/
def canonSpoiltWrong : ChangeSpec := { name := "canonSpoilt", fn := fun _ => fun
  | [d1, d2, d3] => { results := [.lit (.bool false)], args := [d1, d2, d3] }
  | _ => none }
def CanonSpoiltWrongFalsely : Prop := canonSpoiltRow.holds Try.pinned (OpenSpec.ofChange canonSpoiltWrong)

/-- 'entrepotlaw08.CanonOrder': WHATEVER THE INPUT: true; the input reads as it did. -/
def canonOrderSpec : ChangeSpec := { name := "canonOrder", fn := fun _ => fun
  | [d] => { results := [.lit (.bool true)], args := [d] }
  | _ => none }
def canonOrderRow : OpenClaim := { program := "ytfnnngoandpgkaa", sum := "690c88a93c71a16f00c036db8362be153f53342d4512d4afa9dc0dfbcf3ea331", func := "entrepot/entrepotlaw08.CanonOrder", spec := "canonOrder", unfollowed := true, recurses := true, apart := false }
def CanonOrderSaid : Prop := canonOrderRow.holds Try.pinned (OpenSpec.ofChange canonOrderSpec)

/-- ITS FALSE NEIGHBOUR: 'it returns false'. Refute it at one input. -/
def canonOrderWrong : ChangeSpec := { name := "canonOrder", fn := fun _ => fun
  | [d] => { results := [.lit (.bool false)], args := [d] }
  | _ => none }
def CanonOrderWrongFalsely : Prop := canonOrderRow.holds Try.pinned (OpenSpec.ofChange canonOrderWrong)

/- THE SECOND FORM. 'bulk': how many values and letters a reading holds, each counted each time it is reached (what is shared counts as often as it is met; a slice's spare places count too). A statement '..UptoSaid' is the law's where the arguments, and the package variables that the reading takes, are together of bulk at most 1048576: NARROWER than '..Said'. Prove '..Said' where nothing that the law and all that it calls make is longer than what came in: it says more and counts as full. Else prove '..UptoSaid'. A law counts once. -/
mutual
def uptoBulk {H : Type} : DataW H → Nat
  | .lit (.string bytes) => bytes.length + 1
  | .lit _ => 1
  | .nil => 1
  | .ptr d => uptoBulk d + 1
  | .slice elems spare => uptoBulkAll elems + uptoBulkAll spare + 1
  | .agg parts => uptoBulkAll parts + 1
  | .iface _ d => uptoBulk d + 1
  | .map entries => uptoBulkEntries entries + 1
  | .held _ => 1
def uptoBulkAll {H : Type} : List (DataW H) → Nat
  | [] => 0
  | d :: r => uptoBulk d + uptoBulkAll r
def uptoBulkEntries {H : Type} : List (Lit × DataW H) → Nat
  | [] => 0
  | x :: r => uptoBulkEntry x + uptoBulkEntries r
def uptoBulkEntry {H : Type} : Lit × DataW H → Nat
  | (.string bytes, d) => bytes.length + uptoBulk d + 1
  | (_, d) => uptoBulk d + 1
 end
def uptoSmall : (H : Type) → List (DataW H) → Bool := fun _ ds => decide (uptoBulkAll ds ≤ 1048576)
def OpenSpec.upto (s : _root_.Go.ChangeSpec) : _root_.Go.OpenSpec := { _root_.Go.OpenSpec.ofChange s with cond := some uptoSmall }

/-- 'entrepotlaw08.CanonChecks', WHERE WHAT IT READS IS OF BULK AT MOST 1048576: true; the input reads as it did. -/
def canonChecksUptoRow : OpenClaim := { program := "ytfnnngoandpgkaa", sum := "690c88a93c71a16f00c036db8362be153f53342d4512d4afa9dc0dfbcf3ea331", func := "entrepot/entrepotlaw08.CanonChecks", spec := "canonChecks", unfollowed := true, recurses := true, apart := false, narrowed := true }
def CanonChecksUptoSaid : Prop := canonChecksUptoRow.holds Try.pinned (OpenSpec.upto canonChecksSpec)

/-- 'entrepotlaw08.CanonNorms', WHERE WHAT IT READS IS OF BULK AT MOST 1048576: true; the input reads as it did. -/
def canonNormsUptoRow : OpenClaim := { program := "ytfnnngoandpgkaa", sum := "690c88a93c71a16f00c036db8362be153f53342d4512d4afa9dc0dfbcf3ea331", func := "entrepot/entrepotlaw08.CanonNorms", spec := "canonNorms", unfollowed := true, recurses := true, apart := false, narrowed := true }
def CanonNormsUptoSaid : Prop := canonNormsUptoRow.holds Try.pinned (OpenSpec.upto canonNormsSpec)

/-- 'entrepotlaw08.CanonNormal', WHERE WHAT IT READS IS OF BULK AT MOST 1048576: true; the input reads as it did. -/
def canonNormalUptoRow : OpenClaim := { program := "ytfnnngoandpgkaa", sum := "690c88a93c71a16f00c036db8362be153f53342d4512d4afa9dc0dfbcf3ea331", func := "entrepot/entrepotlaw08.CanonNormal", spec := "canonNormal", unfollowed := true, recurses := true, apart := false, narrowed := true }
def CanonNormalUptoSaid : Prop := canonNormalUptoRow.holds Try.pinned (OpenSpec.upto canonNormalSpec)

/-- 'entrepotlaw08.CanonScaled', WHERE WHAT IT READS IS OF BULK AT MOST 1048576: true; the input reads as it did. -/
def canonScaledUptoRow : OpenClaim := { program := "ytfnnngoandpgkaa", sum := "690c88a93c71a16f00c036db8362be153f53342d4512d4afa9dc0dfbcf3ea331", func := "entrepot/entrepotlaw08.CanonScaled", spec := "canonScaled", unfollowed := true, recurses := true, apart := false, narrowed := true }
def CanonScaledUptoSaid : Prop := canonScaledUptoRow.holds Try.pinned (OpenSpec.upto canonScaledSpec)

/-- 'entrepotlaw08.CanonSpoilt', WHERE WHAT IT READS IS OF BULK AT MOST 1048576: true; the input reads as it did. -/
def canonSpoiltUptoRow : OpenClaim := { program := "ytfnnngoandpgkaa", sum := "690c88a93c71a16f00c036db8362be153f53342d4512d4afa9dc0dfbcf3ea331", func := "entrepot/entrepotlaw08.CanonSpoilt", spec := "canonSpoilt", unfollowed := true, recurses := true, apart := false, narrowed := true }
def CanonSpoiltUptoSaid : Prop := canonSpoiltUptoRow.holds Try.pinned (OpenSpec.upto canonSpoiltSpec)

/-- 'entrepotlaw08.CanonOrder', WHERE WHAT IT READS IS OF BULK AT MOST 1048576: true; the input reads as it did. -/
def canonOrderUptoRow : OpenClaim := { program := "ytfnnngoandpgkaa", sum := "690c88a93c71a16f00c036db8362be153f53342d4512d4afa9dc0dfbcf3ea331", func := "entrepot/entrepotlaw08.CanonOrder", spec := "canonOrder", unfollowed := true, recurses := true, apart := false, narrowed := true }
def CanonOrderUptoSaid : Prop := canonOrderUptoRow.holds Try.pinned (OpenSpec.upto canonOrderSpec)

end Rows
end Go.Proofs.Ytfnnngoandpgkaa
