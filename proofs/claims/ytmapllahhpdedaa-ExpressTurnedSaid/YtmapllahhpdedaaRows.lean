/-
  No cell of these rows narrows 'for every input' (looked for: loops, veiled, ifaces, maps, wideKeys, modest, calm, conditions, laid).
  DERIVED. THE GIVEN ROWS OF THIS SEAT. 4 by the template 'for every input the law returns true; each argument reads behind the call as it read before'; 0 by the template 'total and deterministic' (their statements: YtmapllahhpdedaaTotals.lean).
  GIVEN WITH THE SEED: the statements are not yours to turn. If you find one false, say at which input.
  Laid BY PROGRAM, IN A SANDBOX (cutbox-rows.mjs): the forced cells as the released guide's own fill.sh prints them over the translation 86276dd6ef2363cf… (all of the seat's roots in one cut). By AI agents, Wed Nov 11 2026. No macro, syntax, notation, axiom, sorry.
-/
import Derived.Test.YtmapllahhpdedaaChecked
import GoSem.Claim
import GoSem.ClaimJoined
import GoSem.ClaimMapViews
import Derived.JoinedTies
import Derived.KernelRfl
namespace Go.Proofs.Ytmapllahhpdedaa
/- THE CELL 'sum', in the pinned program and in every row, IS THE sha256 OF THE DUMP (.gsa) THAT YtmapllahhpdedaaProg.lean LOADS. Nothing in Lean hashes anything: it is a label: what it is worth is what the hold of that sum in a sandbox is worth. -/
noncomputable def Try.pinned : Pinned := { name := "ytmapllahhpdedaa", sum := "86276dd6ef2363cfe84b8e93b69384b875e5a6e7c6e996e744bf52a7f5d23c27", checked := Try.checked }
namespace Rows
def none {H : Type} : Left H := { results := [], args := [] }

/-- 'entrepotlaw12.ExpressTells': WHATEVER THE INPUT: true; the input reads as it did. -/
def expressTellsSpec : ChangeSpec := { name := "expressTells", fn := fun _ => fun
  | [d1, d2] => { results := [.lit (.bool true)], args := [d1, d2] }
  | _ => none }
def expressTellsRow : OpenClaim := { program := "ytmapllahhpdedaa", sum := "86276dd6ef2363cfe84b8e93b69384b875e5a6e7c6e996e744bf52a7f5d23c27", func := "entrepot/entrepotlaw12.ExpressTells", spec := "expressTells", unfollowed := true, recurses := true, apart := false }
def ExpressTellsSaid : Prop := expressTellsRow.holds Try.pinned (OpenSpec.ofChange expressTellsSpec)

/-- ITS FALSE NEIGHBOUR: 'it returns false'. Refute it at one input. -/
def expressTellsWrong : ChangeSpec := { name := "expressTells", fn := fun _ => fun
  | [d1, d2] => { results := [.lit (.bool false)], args := [d1, d2] }
  | _ => none }
def ExpressTellsWrongFalsely : Prop := expressTellsRow.holds Try.pinned (OpenSpec.ofChange expressTellsWrong)

/-- 'entrepotlaw12.ExpressOne': WHATEVER THE INPUT: true; the input reads as it did. -/
def expressOneSpec : ChangeSpec := { name := "expressOne", fn := fun _ => fun
  | [d] => { results := [.lit (.bool true)], args := [d] }
  | _ => none }
def expressOneRow : OpenClaim := { program := "ytmapllahhpdedaa", sum := "86276dd6ef2363cfe84b8e93b69384b875e5a6e7c6e996e744bf52a7f5d23c27", func := "entrepot/entrepotlaw12.ExpressOne", spec := "expressOne", unfollowed := true, recurses := true, apart := false }
def ExpressOneSaid : Prop := expressOneRow.holds Try.pinned (OpenSpec.ofChange expressOneSpec)

/-- ITS FALSE NEIGHBOUR: 'it returns false'. Refute it at one input. -/
def expressOneWrong : ChangeSpec := { name := "expressOne", fn := fun _ => fun
  | [d] => { results := [.lit (.bool false)], args := [d] }
  | _ => none }
def ExpressOneWrongFalsely : Prop := expressOneRow.holds Try.pinned (OpenSpec.ofChange expressOneWrong)

/-- 'entrepotlaw12.ExpressTurned': WHATEVER THE INPUT: true; the input reads as it did. -/
def expressTurnedSpec : ChangeSpec := { name := "expressTurned", fn := fun _ => fun
  | [d1, d2, d3] => { results := [.lit (.bool true)], args := [d1, d2, d3] }
  | _ => none }
def expressTurnedRow : OpenClaim := { program := "ytmapllahhpdedaa", sum := "86276dd6ef2363cfe84b8e93b69384b875e5a6e7c6e996e744bf52a7f5d23c27", func := "entrepot/entrepotlaw12.ExpressTurned", spec := "expressTurned", unfollowed := true, recurses := true, apart := false }
def ExpressTurnedSaid : Prop := expressTurnedRow.holds Try.pinned (OpenSpec.ofChange expressTurnedSpec)

/-- ITS FALSE NEIGHBOUR: 'it returns false'. Refute it at one input. -/
def expressTurnedWrong : ChangeSpec := { name := "expressTurned", fn := fun _ => fun
  | [d1, d2, d3] => { results := [.lit (.bool false)], args := [d1, d2, d3] }
  | _ => none }
def ExpressTurnedWrongFalsely : Prop := expressTurnedRow.holds Try.pinned (OpenSpec.ofChange expressTurnedWrong)

/-- 'entrepotlaw12.ExpressRises': WHATEVER THE INPUT: true; the input reads as it did. -/
def expressRisesSpec : ChangeSpec := { name := "expressRises", fn := fun _ => fun
  | [d1, d2] => { results := [.lit (.bool true)], args := [d1, d2] }
  | _ => none }
def expressRisesRow : OpenClaim := { program := "ytmapllahhpdedaa", sum := "86276dd6ef2363cfe84b8e93b69384b875e5a6e7c6e996e744bf52a7f5d23c27", func := "entrepot/entrepotlaw12.ExpressRises", spec := "expressRises", unfollowed := true, recurses := true, apart := false }
def ExpressRisesSaid : Prop := expressRisesRow.holds Try.pinned (OpenSpec.ofChange expressRisesSpec)

/-- ITS FALSE NEIGHBOUR: 'it returns false'. Refute it at one input. -/
def expressRisesWrong : ChangeSpec := { name := "expressRises", fn := fun _ => fun
  | [d1, d2] => { results := [.lit (.bool false)], args := [d1, d2] }
  | _ => none }
def ExpressRisesWrongFalsely : Prop := expressRisesRow.holds Try.pinned (OpenSpec.ofChange expressRisesWrong)

/- THE SECOND FORM. 'bulk': how many values and letters a reading holds, each counted each time it is reached (what is shared counts as often as it is met; a slice's spare places count too). A statement '..UptoSaid' is the law's where the arguments, and the package variables that the reading takes, are together of bulk at most 1048576: NARROWER than '..Said'. Prove '..Said' where nothing that the law and all that it calls make is longer than what came in: it says more and counts as full. Else prove '..UptoSaid'. A law counts once. -/
mutual
def uptoBulk {H : Type} : DataW H → Nat
  | .lit (.string bytes) => bytes.length + 1
  | .lit _ => 1
  | .nil => 1
  | .ptr d => uptoBulk d + 1
  | .slice elems spare => uptoBulkAll elems + uptoBulkAll spare + 1
  | .agg parts => uptoBulkAll parts + 1
  | .iface _ d => uptoBulk d + 1
  | .map entries => uptoBulkEntries entries + 1
  | .held _ => 1
def uptoBulkAll {H : Type} : List (DataW H) → Nat
  | [] => 0
  | d :: r => uptoBulk d + uptoBulkAll r
def uptoBulkEntries {H : Type} : List (Lit × DataW H) → Nat
  | [] => 0
  | x :: r => uptoBulkEntry x + uptoBulkEntries r
def uptoBulkEntry {H : Type} : Lit × DataW H → Nat
  | (.string bytes, d) => bytes.length + uptoBulk d + 1
  | (_, d) => uptoBulk d + 1
 end
def uptoSmall : (H : Type) → List (DataW H) → Bool := fun _ ds => decide (uptoBulkAll ds ≤ 1048576)
def OpenSpec.upto (s : _root_.Go.ChangeSpec) : _root_.Go.OpenSpec := { _root_.Go.OpenSpec.ofChange s with cond := some uptoSmall }

/-- 'entrepotlaw12.ExpressTells', WHERE WHAT IT READS IS OF BULK AT MOST 1048576: true; the input reads as it did. -/
def expressTellsUptoRow : OpenClaim := { program := "ytmapllahhpdedaa", sum := "86276dd6ef2363cfe84b8e93b69384b875e5a6e7c6e996e744bf52a7f5d23c27", func := "entrepot/entrepotlaw12.ExpressTells", spec := "expressTells", unfollowed := true, recurses := true, apart := false, narrowed := true }
def ExpressTellsUptoSaid : Prop := expressTellsUptoRow.holds Try.pinned (OpenSpec.upto expressTellsSpec)

/-- 'entrepotlaw12.ExpressOne', WHERE WHAT IT READS IS OF BULK AT MOST 1048576: true; the input reads as it did. -/
def expressOneUptoRow : OpenClaim := { program := "ytmapllahhpdedaa", sum := "86276dd6ef2363cfe84b8e93b69384b875e5a6e7c6e996e744bf52a7f5d23c27", func := "entrepot/entrepotlaw12.ExpressOne", spec := "expressOne", unfollowed := true, recurses := true, apart := false, narrowed := true }
def ExpressOneUptoSaid : Prop := expressOneUptoRow.holds Try.pinned (OpenSpec.upto expressOneSpec)

/-- 'entrepotlaw12.ExpressTurned', WHERE WHAT IT READS IS OF BULK AT MOST 1048576: true; the input reads as it did. -/
def expressTurnedUptoRow : OpenClaim := { program := "ytmapllahhpdedaa", sum := "86276dd6ef2363cfe84b8e93b69384b875e5a6e7c6e996e744bf52a7f5d23c27", func := "entrepot/entrepotlaw12.ExpressTurned", spec := "expressTurned", unfollowed := true, recurses := true, apart := false, narrowed := true }
def ExpressTurnedUptoSaid : Prop := expressTurnedUptoRow.holds Try.pinned (OpenSpec.upto expressTurnedSpec)

/-- 'entrepotlaw12.ExpressRises', WHERE WHAT IT READS IS OF BULK AT MOST 1048576: true; the input reads as it did. -/
def expressRisesUptoRow : OpenClaim := { program := "ytmapllahhpdedaa", sum := "86276dd6ef2363cfe84b8e93b69384b875e5a6e7c6e996e744bf52a7f5d23c27", func := "entrepot/entrepotlaw12.ExpressRises", spec := "expressRises", unfollowed := true, recurses := true, apart := false, narrowed := true }
def ExpressRisesUptoSaid : Prop := expressRisesUptoRow.holds Try.pinned (OpenSpec.upto expressRisesSpec)

end Rows
end Go.Proofs.Ytmapllahhpdedaa
