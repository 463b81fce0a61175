/- Whatever the two plans, if they are within the bound: whether the first may be, its normal form, how many stops it has, and whether the two are the same, is what the reference says. -/
import Derived.Test.YtdjkhcmblekeiaaPxEntrepotlaw09PlanTells
import Derived.Test.YtdjkhcmblekeiaaGPlanD
import Derived.Test.YtdjkhcmblekeiaaGOpenPlan
namespace Go.Proofs.Ytdjkhcmblekeiaa.Pure
open Go.RowKit Go.Proofs.Ytdjkhcmblekeiaa.P Go.Proofs.YtdjkhcmblekeiaaW.PrintWords Go.Proofs.YtdjkhcmblekeiaaW.PrintLast StopsWalk PlanA

theorem tells_shown (a b : List (List Int)) : Ev (fun k => entrepotlaw09_PlanTells.j0 k true a b) true :=
  Ev.step (fun _ => entrepotlaw09_PlanTells.j0.eq_2 ..) (Ev.pos rfl (Ev.bind shown_ev (Ev.now _)))
theorem full_stops (rs : List (List Int)) : (full rs).length ≤ rs.length := List.length_filter_le _ _
theorem tells_told {a b : List (List Int)} (ha : Fits a) : Ev (fun k => entrepotlaw09_PlanTells.j0 k false a b) true := by
  refine Ev.step (fun _ => entrepotlaw09_PlanTells.j0.eq_2 ..) (Ev.neg (by simp) ?_)
  refine Ev.bs (planCheck_some ha) ?_
  refine Ev.bs (x := a) rfl ?_
  refine Ev.bind (refCheck_ev ha) (Ev.pos rfl ?_)
  refine Ev.bind (norm_ev ha) ?_
  refine Ev.bs (x := full a) rfl (Ev.bs (x := a) rfl ?_)
  refine Ev.bind (refNorm_ev ha) ?_
  refine Ev.bind (refSame_ev' (fun i hi => ?_) (by have := full_stops a; have := ha.routes; omega)) ?_
  · obtain ⟨j, hj, e⟩ := List.getElem_of_mem (List.mem_filter.1 (List.getElem_mem hi)).1
    have e2 : (full a)[i] = a[j] := e.symm
    rw [e2]; exact ha.row hj
  refine Ev.pos (by simp) ?_
  refine Ev.bind (many_ev ha.small) (Ev.bs (x := a) rfl (Ev.bind (refMany_ev ha) (Ev.pos rfl ?_)))
  refine Ev.bs (planSame_some ha) (Ev.bs (x := a) rfl (Ev.bs (x := b) rfl ?_))
  refine Ev.bind (refSame_ev ha) (Ev.this ?_)
  rw [beq_dec]; simp
theorem PlanTells (a b : List (List Int)) (_ : Open.PlanGood a) (_ : Open.PlanGood b) : ∃ k, entrepotlaw09_PlanTells.f k a b = some true := by
  refine Ev.rounds ?_
  unfold entrepotlaw09_PlanTells.f
  obtain ⟨x, hx, fx⟩ := long_ev a
  obtain ⟨y, hy, _⟩ := long_ev b
  refine Ev.bind hx ?_
  cases x with
  | true => exact Ev.pos rfl (tells_shown a b)
  | false =>
    refine Ev.neg (by simp) (Ev.bind hy ?_)
    cases y with
    | true => exact Ev.pos rfl (tells_shown a b)
    | false => exact Ev.neg (by simp) (Ev.bind shown_ev (tells_told (fx rfl)))
end Go.Proofs.Ytdjkhcmblekeiaa.Pure
