/- Whatever the plan, the number and the stop, if the plan is within the bound: how often each number is a stop, and where a stop is, is what the reference says. -/
import Derived.Test.YtdjkhcmblekeiaaPxEntrepotlaw09PlanFinds
import Derived.Test.YtdjkhcmblekeiaaGPlanC
import Derived.Test.YtdjkhcmblekeiaaGOpenPlan
namespace Go.Proofs.Ytdjkhcmblekeiaa.Pure
open Go.RowKit Go.Proofs.Ytdjkhcmblekeiaa.P Go.Proofs.YtdjkhcmblekeiaaW.PrintWords Go.Proofs.YtdjkhcmblekeiaaW.PrintLast StopsWalk PlanA

theorem finds_shown (n s : Int) (rs : List (List Int)) : Ev (fun k => entrepotlaw09_PlanFinds.j0 k n s true rs) true :=
  Ev.step (fun _ => entrepotlaw09_PlanFinds.j0.eq_2 ..) (Ev.pos rfl (Ev.bind shown_ev (Ev.now _)))
theorem finds_told (n s : Int) {rs : List (List Int)} (hz : Fits rs) : Ev (fun k => entrepotlaw09_PlanFinds.j0 k n s false rs) true := by
  refine Ev.step (fun _ => entrepotlaw09_PlanFinds.j0.eq_2 ..) (Ev.neg (by simp) ?_)
  refine Ev.bs (planFind_some hz s) ?_
  refine Ev.bs (x := rs) rfl ?_
  refine Ev.bind (find_ev hz.small s) ?_
  refine Ev.bs (planCount_some hz n) ?_
  refine Ev.bs (x := rs) rfl ?_
  refine Ev.bind (refCount_tells hz n) ?_
  have hs := count_short n (stopsOf rs)
  refine Ev.bind (ints_ev _ _ (by omega)) ?_
  refine Ev.pos (by simp) (Ev.pos rfl (Ev.pos rfl (Ev.this (by simp))))
theorem PlanFinds (rs : List (List Int)) (n s : Int) (_ : Open.PlanGood rs) (_ : Open.Plan.WfI n) (_ : Open.Plan.WfI s) : ∃ k, entrepotlaw09_PlanFinds.f k rs n s = some true := by
  refine Ev.rounds ?_
  unfold entrepotlaw09_PlanFinds.f
  obtain ⟨b, hb, hf⟩ := long_ev rs
  refine Ev.bind hb ?_
  cases b with
  | true => exact Ev.pos rfl (finds_shown n s rs)
  | false =>
    refine Ev.neg (by simp) ?_
    by_cases h1 : n > 50
    · refine Ev.pos h1 ?_
      by_cases h2 : n ≤ 400
      · exact Ev.pos h2 (finds_shown n s rs)
      · exact Ev.neg h2 (Ev.bind shown_ev (finds_told n s (hf rfl)))
    · exact Ev.neg h1 (Ev.bind shown_ev (finds_told n s (hf rfl)))
end Go.Proofs.Ytdjkhcmblekeiaa.Pure
