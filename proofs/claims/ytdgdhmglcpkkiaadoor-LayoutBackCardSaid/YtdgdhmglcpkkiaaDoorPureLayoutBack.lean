/- What is unpacked is packed again, and what is packed unpacked, into the same numbers. -/
import Derived.Test.YtdgdhmglcpkkiaaDoorGLayS
import Derived.Test.YtdgdhmglcpkkiaaDoorGOpenRow
import Derived.Test.YtdgdhmglcpkkiaaDoorPxEntrepotlaw07LayoutBack
set_option linter.unusedVariables false
namespace Go.Proofs.YtdgdhmglcpkkiaaDoor.Pure
open Go.RowKit Go.Proofs.YtdgdhmglcpkkiaaDoor.P Go.Proofs.YtdgdhmglcpkkiaaDoorW.PrintWords Go.Proofs.YtdgdhmglcpkkiaaDoorW.PrintLast LayWalk
theorem back_two (a0 a1 : Int) (l : List Int) (hl : l.length ≤ 1000000) : Ev (fun k => entrepotlaw07_LayoutBack.j1 k a0 a1 l) true := by
  refine Ev.step (fun _ => entrepotlaw07_LayoutBack.j1.eq_2 ..) (Ev.bs (pack_eq a0 a1 l) ?_)
  by_cases h : (packV a0 a1 l).2 = 0
  · refine Ev.pos h (Ev.bind (unpack_ev _ _ _) ?_)
    rw [unpack_pack h]
    exact Ev.pos rfl (Ev.bind (ints_ev _ _ (by simp only; omega)) (Ev.this (by simp)))
  · refine Ev.neg h ?_
    rw [pack_none h]
    exact Ev.this rfl
theorem back_told (a0 a1 : Int) (l : List Int) (hl : l.length ≤ 1000000) : Ev (fun k => entrepotlaw07_LayoutBack.j0 k a0 a1 l false) true := by
  refine Ev.step (fun _ => entrepotlaw07_LayoutBack.j0.eq_2 ..) (Ev.neg (by simp) (Ev.bind (unpack_ev a0 a1 l) ?_))
  by_cases h : (unpackV a0 a1 l).2 = 0
  · refine Ev.pos h (Ev.bs (pack_eq _ _ _) ?_)
    rw [pack_unpack h]
    exact Ev.pos rfl (Ev.bind (ints_ev _ _ (by simp only; omega)) (Ev.pos (by simp) (back_two a0 a1 l hl)))
  · exact Ev.neg h (back_two a0 a1 l hl)
theorem LayoutBack (a0 a1 : Int) (l2 : List Int) (_ : (Lit.int .i64 a0).wf = true) (_ : (Lit.int .i64 a1).wf = true) (_ : Open.WfRow (Open.WfInt .i64) l2) : ∃ k, entrepotlaw07_LayoutBack.f k a0 a1 l2 = some true := by
  refine Ev.rounds ?_
  unfold entrepotlaw07_LayoutBack.f
  have h1 : Ev (fun k => entrepotlaw07_LayoutBack.j0 k a0 a1 l2 true) true := Ev.step (fun _ => entrepotlaw07_LayoutBack.j0.eq_2 ..) (Ev.pos rfl (Ev.bind shown_ev (Ev.now _)))
  by_cases hl : (l2.length : Int) > 400
  · exact Ev.pos hl h1
  · exact guard_ev (J := fun k u => entrepotlaw07_LayoutBack.j0 k a0 a1 l2 u) _ _ h1 (back_told a0 a1 l2 (by omega))
end Go.Proofs.YtdgdhmglcpkkiaaDoor.Pure
