/- What the rows of this seat list as laid: a world that has it (the witness), and the table out of it. -/
import Derived.Test.YtdgdhmglcpkkiaaDoorRows
import Derived.Test.YtdgdhmglcpkkiaaDoorGTab
import Derived.Lib.SpaceR
import Derived.Deep.DeepWitnessRef
import Derived.Deep.DeepLaidRun
import Derived.LaidLaws
import Derived.LaidSub
import Derived.ProofKit
namespace Go.Proofs.YtdgdhmglcpkkiaaDoor
open Go.RowKit Go.ChangeShapes
def laidList : List (String × DataW Unit) := [("unicode.White_Space", Rows.laid_unicode_White_Space), ("strings.asciiSpace", Rows.laid_strings_asciiSpace)]
noncomputable def laidWorld (os : Os) : World :=
  let N := (World.settled Tryd.prog os).heap.size
  let w0 := World.holding Tryd.prog os ⟨#[.cells (Lib.whiteT.map fun (z : Nat) => Value.int .u16 (z : Int)).toArray 59, .cells #[.slice (some ⟨N, 0, none⟩) 7 7, .slice none 0 0, .int .i64 2] 56], #[], []⟩
  let put (h : Array Obj) (g : Nat) (cs : Array Value) : Array Obj := h.modify g fun
    | .cells _ t frozen => .cells cs t frozen
    | o => o
  { w0 with heap := put (put w0.heap ((Tryd.prog.globalNamed "strings.asciiSpace").getD 0) (Lib.asciiSpaceTab.map fun z => Value.int .u8 z).toArray) ((Tryd.prog.globalNamed "unicode.White_Space").getD 0) #[.pointer (some ⟨N + 1, 0, none⟩)] }
theorem laid_met (os : Os) (args : Array Value) : laidMet Tryd.prog laidList ((laidWorld os).forCall (fun _ _ => 0) ⟨#[], args, []⟩).memory :=
  laidMet_of_run3 10 (by kernel_rfl) (by kernel_rfl) (by kernel_rfl)
theorem laid_metH (os : Os) (args : Array Value) : laidMetH Tryd.prog laidList ((laidWorld os).forCall (fun _ _ => 0) ⟨#[], args, []⟩).memory :=
  laid_met os args
theorem laidMetH_of_heap {w w' : World} (hh : w.heap = w'.heap) (h : laidMetH Tryd.prog laidList w) : laidMetH Tryd.prog laidList w' :=
  laidMet.of_heap hh h
/-- The table, out of what is laid. -/
theorem tab_of_laid {W : World} (h : laidMetH Tryd.prog laidList W) : Tab W := by
  have h1 : laidMet Tryd.prog laidList W := h
  have h2 := laidMet.filter (fun x => x.1 == "strings.asciiSpace") h1
  have e : laidList.filter (fun x => x.1 == "strings.asciiSpace") = [("strings.asciiSpace", Lib.tabData .u8 Lib.asciiSpaceTab)] := by kernel_rfl
  rw [e] at h2
  obtain ⟨g, hg⟩ : ∃ g, Tryd.prog.globalNamed "strings.asciiSpace" = some g := Option.isSome_iff_exists.1 (by kernel_rfl)
  exact Lib.tabIs_of_head (t := 44) (e := 5) (n := 256) hg (by
    have : (Tryd.prog.globalNamed "strings.asciiSpace").bind (fun g => (Tryd.prog.globals[g]?).map (·.type)) = some 44 := by kernel_rfl
    rw [hg] at this; exact this) (by kernel_rfl) (by kernel_rfl) (by kernel_rfl) (by kernel_rfl) h2
end Go.Proofs.YtdgdhmglcpkkiaaDoor
