/- The library's table strings.asciiSpace holds what start-up laid: what calls leave of that. -/
import Derived.Lib.LaidTab
import Derived.Lib.Space
import Derived.Below
import Derived.WalkSmall
import Derived.Test.YtdgdhmglcpkkiaaDoorPx0
namespace Go.Proofs.YtdgdhmglcpkkiaaDoor
open Go.RowKit Go.Proofs.YtdgdhmglcpkkiaaDoorW.PrintWords
/-- The table is as it was laid. -/
def Tab (w : World) : Prop := Lib.TabIs Tryd.prog w "strings.asciiSpace" .u8 Lib.asciiSpaceTab
theorem tab_below {w W : World} (h : Tab w) (hb : Below w.heap.size w W) : Tab W := by
  unfold Tab Lib.TabIs at h ⊢
  have hv := h
  unfold World.var? at hv
  obtain ⟨g, hg, hm⟩ := Option.bind_eq_some_iff.1 hv
  have hlt : g < w.heap.size := by
    rcases Nat.lt_or_ge g w.heap.size with h1 | h1
    · exact h1
    · rw [Array.getElem?_eq_none h1] at hm; cases hm
  exact var?_below hb hg hlt h
end Go.Proofs.YtdgdhmglcpkkiaaDoor
