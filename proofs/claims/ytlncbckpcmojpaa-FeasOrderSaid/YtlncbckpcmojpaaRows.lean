/-
  No cell of these rows narrows 'for every input' (looked for: loops, veiled, ifaces, maps, wideKeys, modest, calm, conditions, laid).
  DERIVED. THE GIVEN ROWS OF THIS SEAT. 8 by the template 'for every input the law returns true; each argument reads behind the call as it read before'; 0 by the template 'total and deterministic' (their statements: YtlncbckpcmojpaaTotals.lean).
  GIVEN WITH THE SEED: the statements are not yours to turn. If you find one false, say at which input.
  Laid BY PROGRAM, IN A SANDBOX (cutbox-rows.mjs): the forced cells as the released guide's own fill.sh prints them over the translation ff416bddde4d2fea… (all of the seat's roots in one cut). By AI agents, Wed Nov 11 2026. No macro, syntax, notation, axiom, sorry.
-/
import Derived.Test.YtlncbckpcmojpaaChecked
import GoSem.Claim
import GoSem.ClaimJoined
import GoSem.ClaimMapViews
import Derived.JoinedTies
import Derived.KernelRfl
namespace Go.Proofs.Ytlncbckpcmojpaa
/- THE CELL 'sum', in the pinned program and in every row, IS THE sha256 OF THE DUMP (.gsa) THAT YtlncbckpcmojpaaProg.lean LOADS. Nothing in Lean hashes anything: it is a label: what it is worth is what the hold of that sum in a sandbox is worth. -/
noncomputable def Try.pinned : Pinned := { name := "ytlncbckpcmojpaa", sum := "ff416bddde4d2fead349d37c6e373244409bc8b7e8c5d34fd5e089d161a3e536", checked := Try.checked }
namespace Rows
def none {H : Type} : Left H := { results := [], args := [] }

/-- 'entrepotlaw11.FeasAlone': WHATEVER THE INPUT: true; the input reads as it did. -/
def feasAloneSpec : ChangeSpec := { name := "feasAlone", fn := fun _ => fun
  | [d] => { results := [.lit (.bool true)], args := [d] }
  | _ => none }
def feasAloneRow : OpenClaim := { program := "ytlncbckpcmojpaa", sum := "ff416bddde4d2fead349d37c6e373244409bc8b7e8c5d34fd5e089d161a3e536", func := "entrepot/entrepotlaw11.FeasAlone", spec := "feasAlone", unfollowed := true, recurses := true, apart := false }
def FeasAloneSaid : Prop := feasAloneRow.holds Try.pinned (OpenSpec.ofChange feasAloneSpec)

/-- ITS FALSE NEIGHBOUR: 'it returns false'. Refute it at one input. -/
def feasAloneWrong : ChangeSpec := { name := "feasAlone", fn := fun _ => fun
  | [d] => { results := [.lit (.bool false)], args := [d] }
  | _ => none }
def FeasAloneWrongFalsely : Prop := feasAloneRow.holds Try.pinned (OpenSpec.ofChange feasAloneWrong)

/-- 'entrepotlaw11.FeasScaled': WHATEVER THE INPUT: true; the input reads as it did. -/
def feasScaledSpec : ChangeSpec := { name := "feasScaled", fn := fun _ => fun
  | [d1, d2] => { results := [.lit (.bool true)], args := [d1, d2] }
  | _ => none }
def feasScaledRow : OpenClaim := { program := "ytlncbckpcmojpaa", sum := "ff416bddde4d2fead349d37c6e373244409bc8b7e8c5d34fd5e089d161a3e536", func := "entrepot/entrepotlaw11.FeasScaled", spec := "feasScaled", unfollowed := true, recurses := true, apart := false }
def FeasScaledSaid : Prop := feasScaledRow.holds Try.pinned (OpenSpec.ofChange feasScaledSpec)

/-- ITS FALSE NEIGHBOUR: 'it returns false'. Refute it at one input. -/
def feasScaledWrong : ChangeSpec := { name := "feasScaled", fn := fun _ => fun
  | [d1, d2] => { results := [.lit (.bool false)], args := [d1, d2] }
  | _ => none }
def FeasScaledWrongFalsely : Prop := feasScaledRow.holds Try.pinned (OpenSpec.ofChange feasScaledWrong)

/-- 'entrepotlaw11.FeasChecks': WHATEVER THE INPUT: true; the input reads as it did. -/
def feasChecksSpec : ChangeSpec := { name := "feasChecks", fn := fun _ => fun
  | [d1, d2] => { results := [.lit (.bool true)], args := [d1, d2] }
  | _ => none }
def feasChecksRow : OpenClaim := { program := "ytlncbckpcmojpaa", sum := "ff416bddde4d2fead349d37c6e373244409bc8b7e8c5d34fd5e089d161a3e536", func := "entrepot/entrepotlaw11.FeasChecks", spec := "feasChecks", unfollowed := true, recurses := true, apart := false }
def FeasChecksSaid : Prop := feasChecksRow.holds Try.pinned (OpenSpec.ofChange feasChecksSpec)

/-- ITS FALSE NEIGHBOUR: 'it returns false'. Refute it at one input. -/
def feasChecksWrong : ChangeSpec := { name := "feasChecks", fn := fun _ => fun
  | [d1, d2] => { results := [.lit (.bool false)], args := [d1, d2] }
  | _ => none }
def FeasChecksWrongFalsely : Prop := feasChecksRow.holds Try.pinned (OpenSpec.ofChange feasChecksWrong)

/-- 'entrepotlaw11.FeasTimes': WHATEVER THE INPUT: true; the input reads as it did. -/
def feasTimesSpec : ChangeSpec := { name := "feasTimes", fn := fun _ => fun
  | [d1, d2] => { results := [.lit (.bool true)], args := [d1, d2] }
  | _ => none }
def feasTimesRow : OpenClaim := { program := "ytlncbckpcmojpaa", sum := "ff416bddde4d2fead349d37c6e373244409bc8b7e8c5d34fd5e089d161a3e536", func := "entrepot/entrepotlaw11.FeasTimes", spec := "feasTimes", unfollowed := true, recurses := true, apart := false }
def FeasTimesSaid : Prop := feasTimesRow.holds Try.pinned (OpenSpec.ofChange feasTimesSpec)

/-- ITS FALSE NEIGHBOUR: 'it returns false'. Refute it at one input. -/
def feasTimesWrong : ChangeSpec := { name := "feasTimes", fn := fun _ => fun
  | [d1, d2] => { results := [.lit (.bool false)], args := [d1, d2] }
  | _ => none }
def FeasTimesWrongFalsely : Prop := feasTimesRow.holds Try.pinned (OpenSpec.ofChange feasTimesWrong)

/-- 'entrepotlaw11.FeasMeans': WHATEVER THE INPUT: true; the input reads as it did. -/
def feasMeansSpec : ChangeSpec := { name := "feasMeans", fn := fun _ => fun
  | [d1, d2] => { results := [.lit (.bool true)], args := [d1, d2] }
  | _ => none }
def feasMeansRow : OpenClaim := { program := "ytlncbckpcmojpaa", sum := "ff416bddde4d2fead349d37c6e373244409bc8b7e8c5d34fd5e089d161a3e536", func := "entrepot/entrepotlaw11.FeasMeans", spec := "feasMeans", unfollowed := true, recurses := true, apart := false }
def FeasMeansSaid : Prop := feasMeansRow.holds Try.pinned (OpenSpec.ofChange feasMeansSpec)

/-- ITS FALSE NEIGHBOUR: 'it returns false'. Refute it at one input. -/
def feasMeansWrong : ChangeSpec := { name := "feasMeans", fn := fun _ => fun
  | [d1, d2] => { results := [.lit (.bool false)], args := [d1, d2] }
  | _ => none }
def FeasMeansWrongFalsely : Prop := feasMeansRow.holds Try.pinned (OpenSpec.ofChange feasMeansWrong)

/-- 'entrepotlaw11.FeasOrder': WHATEVER THE INPUT: true; the input reads as it did. -/
def feasOrderSpec : ChangeSpec := { name := "feasOrder", fn := fun _ => fun
  | [d1, d2, d3] => { results := [.lit (.bool true)], args := [d1, d2, d3] }
  | _ => none }
def feasOrderRow : OpenClaim := { program := "ytlncbckpcmojpaa", sum := "ff416bddde4d2fead349d37c6e373244409bc8b7e8c5d34fd5e089d161a3e536", func := "entrepot/entrepotlaw11.FeasOrder", spec := "feasOrder", unfollowed := true, recurses := true, apart := false }
def FeasOrderSaid : Prop := feasOrderRow.holds Try.pinned (OpenSpec.ofChange feasOrderSpec)

/-- ITS FALSE NEIGHBOUR: 'it returns false'. Refute it at one input. -/
def feasOrderWrong : ChangeSpec := { name := "feasOrder", fn := fun _ => fun
  | [d1, d2, d3] => { results := [.lit (.bool false)], args := [d1, d2, d3] }
  | _ => none }
def FeasOrderWrongFalsely : Prop := feasOrderRow.holds Try.pinned (OpenSpec.ofChange feasOrderWrong)

/-- 'entrepotlaw11.FeasWider': WHATEVER THE INPUT: true; the input reads as it did. -/
def feasWiderSpec : ChangeSpec := { name := "feasWider", fn := fun _ => fun
  | [d1, d2, d3] => { results := [.lit (.bool true)], args := [d1, d2, d3] }
  | _ => none }
def feasWiderRow : OpenClaim := { program := "ytlncbckpcmojpaa", sum := "ff416bddde4d2fead349d37c6e373244409bc8b7e8c5d34fd5e089d161a3e536", func := "entrepot/entrepotlaw11.FeasWider", spec := "feasWider", unfollowed := true, recurses := true, apart := false }
def FeasWiderSaid : Prop := feasWiderRow.holds Try.pinned (OpenSpec.ofChange feasWiderSpec)

/-- ITS FALSE NEIGHBOUR: 'it returns false'. Refute it at one input. -/
def feasWiderWrong : ChangeSpec := { name := "feasWider", fn := fun _ => fun
  | [d1, d2, d3] => { results := [.lit (.bool false)], args := [d1, d2, d3] }
  | _ => none }
def FeasWiderWrongFalsely : Prop := feasWiderRow.holds Try.pinned (OpenSpec.ofChange feasWiderWrong)

/-- 'entrepotlaw11.FeasTold': WHATEVER THE INPUT: true; the input reads as it did. -/
def feasToldSpec : ChangeSpec := { name := "feasTold", fn := fun _ => fun
  | [d1, d2] => { results := [.lit (.bool true)], args := [d1, d2] }
  | _ => none }
def feasToldRow : OpenClaim := { program := "ytlncbckpcmojpaa", sum := "ff416bddde4d2fead349d37c6e373244409bc8b7e8c5d34fd5e089d161a3e536", func := "entrepot/entrepotlaw11.FeasTold", spec := "feasTold", unfollowed := true, recurses := true, apart := false }
def FeasToldSaid : Prop := feasToldRow.holds Try.pinned (OpenSpec.ofChange feasToldSpec)

/-- ITS FALSE NEIGHBOUR: 'it returns false'. Refute it at one input. -/
def feasToldWrong : ChangeSpec := { name := "feasTold", fn := fun _ => fun
  | [d1, d2] => { results := [.lit (.bool false)], args := [d1, d2] }
  | _ => none }
def FeasToldWrongFalsely : Prop := feasToldRow.holds Try.pinned (OpenSpec.ofChange feasToldWrong)

/- THE SECOND FORM. 'bulk': how many values and letters a reading holds, each counted each time it is reached (what is shared counts as often as it is met; a slice's spare places count too). A statement '..UptoSaid' is the law's where the arguments, and the package variables that the reading takes, are together of bulk at most 1048576: NARROWER than '..Said'. Prove '..Said' where nothing that the law and all that it calls make is longer than what came in: it says more and counts as full. Else prove '..UptoSaid'. A law counts once. -/
mutual
def uptoBulk {H : Type} : DataW H → Nat
  | .lit (.string bytes) => bytes.length + 1
  | .lit _ => 1
  | .nil => 1
  | .ptr d => uptoBulk d + 1
  | .slice elems spare => uptoBulkAll elems + uptoBulkAll spare + 1
  | .agg parts => uptoBulkAll parts + 1
  | .iface _ d => uptoBulk d + 1
  | .map entries => uptoBulkEntries entries + 1
  | .held _ => 1
def uptoBulkAll {H : Type} : List (DataW H) → Nat
  | [] => 0
  | d :: r => uptoBulk d + uptoBulkAll r
def uptoBulkEntries {H : Type} : List (Lit × DataW H) → Nat
  | [] => 0
  | x :: r => uptoBulkEntry x + uptoBulkEntries r
def uptoBulkEntry {H : Type} : Lit × DataW H → Nat
  | (.string bytes, d) => bytes.length + uptoBulk d + 1
  | (_, d) => uptoBulk d + 1
 end
def uptoSmall : (H : Type) → List (DataW H) → Bool := fun _ ds => decide (uptoBulkAll ds ≤ 1048576)
def OpenSpec.upto (s : _root_.Go.ChangeSpec) : _root_.Go.OpenSpec := { _root_.Go.OpenSpec.ofChange s with cond := some uptoSmall }

/-- 'entrepotlaw11.FeasAlone', WHERE WHAT IT READS IS OF BULK AT MOST 1048576: true; the input reads as it did. -/
def feasAloneUptoRow : OpenClaim := { program := "ytlncbckpcmojpaa", sum := "ff416bddde4d2fead349d37c6e373244409bc8b7e8c5d34fd5e089d161a3e536", func := "entrepot/entrepotlaw11.FeasAlone", spec := "feasAlone", unfollowed := true, recurses := true, apart := false, narrowed := true }
def FeasAloneUptoSaid : Prop := feasAloneUptoRow.holds Try.pinned (OpenSpec.upto feasAloneSpec)

/-- 'entrepotlaw11.FeasScaled', WHERE WHAT IT READS IS OF BULK AT MOST 1048576: true; the input reads as it did. -/
def feasScaledUptoRow : OpenClaim := { program := "ytlncbckpcmojpaa", sum := "ff416bddde4d2fead349d37c6e373244409bc8b7e8c5d34fd5e089d161a3e536", func := "entrepot/entrepotlaw11.FeasScaled", spec := "feasScaled", unfollowed := true, recurses := true, apart := false, narrowed := true }
def FeasScaledUptoSaid : Prop := feasScaledUptoRow.holds Try.pinned (OpenSpec.upto feasScaledSpec)

/-- 'entrepotlaw11.FeasChecks', WHERE WHAT IT READS IS OF BULK AT MOST 1048576: true; the input reads as it did. -/
def feasChecksUptoRow : OpenClaim := { program := "ytlncbckpcmojpaa", sum := "ff416bddde4d2fead349d37c6e373244409bc8b7e8c5d34fd5e089d161a3e536", func := "entrepot/entrepotlaw11.FeasChecks", spec := "feasChecks", unfollowed := true, recurses := true, apart := false, narrowed := true }
def FeasChecksUptoSaid : Prop := feasChecksUptoRow.holds Try.pinned (OpenSpec.upto feasChecksSpec)

/-- 'entrepotlaw11.FeasTimes', WHERE WHAT IT READS IS OF BULK AT MOST 1048576: true; the input reads as it did. -/
def feasTimesUptoRow : OpenClaim := { program := "ytlncbckpcmojpaa", sum := "ff416bddde4d2fead349d37c6e373244409bc8b7e8c5d34fd5e089d161a3e536", func := "entrepot/entrepotlaw11.FeasTimes", spec := "feasTimes", unfollowed := true, recurses := true, apart := false, narrowed := true }
def FeasTimesUptoSaid : Prop := feasTimesUptoRow.holds Try.pinned (OpenSpec.upto feasTimesSpec)

/-- 'entrepotlaw11.FeasMeans', WHERE WHAT IT READS IS OF BULK AT MOST 1048576: true; the input reads as it did. -/
def feasMeansUptoRow : OpenClaim := { program := "ytlncbckpcmojpaa", sum := "ff416bddde4d2fead349d37c6e373244409bc8b7e8c5d34fd5e089d161a3e536", func := "entrepot/entrepotlaw11.FeasMeans", spec := "feasMeans", unfollowed := true, recurses := true, apart := false, narrowed := true }
def FeasMeansUptoSaid : Prop := feasMeansUptoRow.holds Try.pinned (OpenSpec.upto feasMeansSpec)

/-- 'entrepotlaw11.FeasOrder', WHERE WHAT IT READS IS OF BULK AT MOST 1048576: true; the input reads as it did. -/
def feasOrderUptoRow : OpenClaim := { program := "ytlncbckpcmojpaa", sum := "ff416bddde4d2fead349d37c6e373244409bc8b7e8c5d34fd5e089d161a3e536", func := "entrepot/entrepotlaw11.FeasOrder", spec := "feasOrder", unfollowed := true, recurses := true, apart := false, narrowed := true }
def FeasOrderUptoSaid : Prop := feasOrderUptoRow.holds Try.pinned (OpenSpec.upto feasOrderSpec)

/-- 'entrepotlaw11.FeasWider', WHERE WHAT IT READS IS OF BULK AT MOST 1048576: true; the input reads as it did. -/
def feasWiderUptoRow : OpenClaim := { program := "ytlncbckpcmojpaa", sum := "ff416bddde4d2fead349d37c6e373244409bc8b7e8c5d34fd5e089d161a3e536", func := "entrepot/entrepotlaw11.FeasWider", spec := "feasWider", unfollowed := true, recurses := true, apart := false, narrowed := true }
def FeasWiderUptoSaid : Prop := feasWiderUptoRow.holds Try.pinned (OpenSpec.upto feasWiderSpec)

/-- 'entrepotlaw11.FeasTold', WHERE WHAT IT READS IS OF BULK AT MOST 1048576: true; the input reads as it did. -/
def feasToldUptoRow : OpenClaim := { program := "ytlncbckpcmojpaa", sum := "ff416bddde4d2fead349d37c6e373244409bc8b7e8c5d34fd5e089d161a3e536", func := "entrepot/entrepotlaw11.FeasTold", spec := "feasTold", unfollowed := true, recurses := true, apart := false, narrowed := true }
def FeasToldUptoSaid : Prop := feasToldUptoRow.holds Try.pinned (OpenSpec.upto feasToldSpec)

end Rows
end Go.Proofs.Ytlncbckpcmojpaa
