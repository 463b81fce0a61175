/- The numbers of any matrix in any layout are the document's, or its error. -/
import Derived.Test.YtdgdhmglcpkkiaaDoorGLayS
import Derived.Test.YtdgdhmglcpkkiaaDoorGOpenRow
import Derived.Test.YtdgdhmglcpkkiaaDoorPxEntrepotlaw07LayoutPacks
set_option linter.unusedVariables false
namespace Go.Proofs.YtdgdhmglcpkkiaaDoor.Pure
open Go.RowKit Go.Proofs.YtdgdhmglcpkkiaaDoor.P Go.Proofs.YtdgdhmglcpkkiaaDoorW.PrintWords Go.Proofs.YtdgdhmglcpkkiaaDoorW.PrintLast LayWalk
theorem packs_told (a0 a1 : Int) (l : List Int) : Ev (fun k => entrepotlaw07_LayoutPacks.j0 k a0 a1 l false) true := by
  refine Ev.step (fun _ => entrepotlaw07_LayoutPacks.j0.eq_2 ..) (Ev.neg (by simp) (Ev.bs (pack_eq a0 a1 l) (Ev.bind (refpack_ev a0 a1 l) ?_)))
  have := packV_len a0 a1 l
  exact Ev.bind (ints_ev _ _ (by omega)) (Ev.pos (by simp) (Ev.this (by simp)))
theorem LayoutPacks (a0 a1 : Int) (l2 : List Int) (_ : (Lit.int .i64 a0).wf = true) (_ : (Lit.int .i64 a1).wf = true) (_ : Open.WfRow (Open.WfInt .i64) l2) : ∃ k, entrepotlaw07_LayoutPacks.f k a0 a1 l2 = some true := by
  refine Ev.rounds ?_
  unfold entrepotlaw07_LayoutPacks.f
  exact guard_ev (J := fun k u => entrepotlaw07_LayoutPacks.j0 k a0 a1 l2 u) _ _ (Ev.step (fun _ => entrepotlaw07_LayoutPacks.j0.eq_2 ..) (Ev.pos rfl (Ev.bind shown_ev (Ev.now _)))) (packs_told a0 a1 l2)
end Go.Proofs.YtdgdhmglcpkkiaaDoor.Pure
