/- Whatever the plan and the stop, if the plan is within the bound: its normal form is its own, has no empty route, the same stops in the same order, and answers alike. -/
import Derived.Test.YtdjkhcmblekeiaaPxEntrepotlaw09PlanNorms
import Derived.Test.YtdjkhcmblekeiaaGPlanE
import Derived.Test.YtdjkhcmblekeiaaGOpenPlan
namespace Go.Proofs.Ytdjkhcmblekeiaa.Pure
open Go.RowKit Go.Proofs.Ytdjkhcmblekeiaa.P Go.Proofs.YtdjkhcmblekeiaaW.PrintWords Go.Proofs.YtdjkhcmblekeiaaW.PrintLast StopsWalk PlanA

theorem norms_shown (s : Int) (rs : List (List Int)) : Ev (fun k => entrepotlaw09_PlanNorms.j0 k s true rs) true :=
  Ev.step (fun _ => entrepotlaw09_PlanNorms.j0.eq_2 ..) (Ev.pos rfl (Ev.bind shown_ev (Ev.now _)))
theorem norms_last (s : Int) {rs : List (List Int)} (hz : Fits rs) (c : List Int) (hc : c.length ≤ 4611686018427387904) : Ev (fun k => entrepotlaw09_PlanNorms.l1 k s c c ((full rs).length : Int) rs (full rs)) true := by
  refine Ev.step (fun _ => entrepotlaw09_PlanNorms.l1.eq_2 ..) (Ev.neg (by omega) ?_)
  have hf := full_fit hz
  refine Ev.bs (planFind_some hz s) (Ev.bs (planFind_some hf s) (Ev.bind (ints_ev c c hc) (Ev.pos (by simp) ?_)))
  refine Ev.bind (norm_ev hf) (Ev.bs (planSame_some (full_fit hf)) (Ev.pos (by rw [full_full]; simp) ?_))
  refine Ev.bind (many_ev hf.small) (Ev.bind (many_ev hz.small) (Ev.pos (by rw [full_length]) ?_))
  rw [full_find]
  refine Ev.pos rfl (Ev.pos (by simp) ?_)
  refine Ev.bs (planCount_some hz 20) (Ev.bs (planCount_some hf 20) ?_)
  have hs := count_short 20 (stopsOf rs)
  refine Ev.bind (ints_ev _ _ (by omega)) (Ev.this ?_)
  rw [full_counts]; simp
theorem norms_full (s : Int) {rs : List (List Int)} (hz : Fits rs) (c : List Int) (hc : c.length ≤ 4611686018427387904) (d : Nat) : ∀ (i : Nat) (b : List Int), i + d = (full rs).length → b ++ ((full rs).drop i).flatten = c → b.length ≤ 2100 * i →
    Ev (fun k => entrepotlaw09_PlanNorms.l1 k s c b (i : Int) rs (full rs)) true := by
  have hf := full_fit hz
  have hfl := hf.routes
  induction d with
  | zero =>
    intro i b hi hb _
    obtain rfl : i = (full rs).length := by omega
    rw [List.drop_length, List.flatten_nil, List.append_nil] at hb
    subst hb
    exact norms_last s hz b hc
  | succ d ih =>
    intro i b hi hb hl
    have hlt : i < (full rs).length := by omega
    have hrow := hf.row hlt
    have hne : 0 < (full rs)[i].length := of_decide_eq_true (List.mem_filter.1 (List.getElem_mem hlt)).2
    refine Ev.step (fun _ => entrepotlaw09_PlanNorms.l1.eq_2 ..) (Ev.pos (by omega) (Ev.pos (by omega) ?_))
    rw [rdL_at hlt, wrap64_succ (by omega)]
    refine Ev.neg (by omega) (Ev.pos (by omega) ?_)
    refine ih (i + 1) _ (by omega) ?_ (by rw [List.length_append]; omega)
    rw [List.append_assoc, ← flat_from hlt]; exact hb
theorem norms_all (s : Int) {rs : List (List Int)} (hz : Fits rs) (d : Nat) : ∀ (i : Nat) (a : List Int), i + d = rs.length → a ++ (rs.drop i).flatten = rs.flatten → a.length ≤ 2100 * i →
    Ev (fun k => entrepotlaw09_PlanNorms.l0 k s a [] (i : Int) rs (full rs)) true := by
  have hfl := hz.routes
  induction d with
  | zero =>
    intro i a hi ha hl
    obtain rfl : i = rs.length := by omega
    rw [List.drop_length, List.flatten_nil, List.append_nil] at ha
    refine Ev.step (fun _ => entrepotlaw09_PlanNorms.l0.eq_2 ..) (Ev.neg (by omega) ?_)
    exact norms_full s hz a (by omega) (full rs).length 0 [] (by omega) (by rw [List.drop_zero, List.nil_append, full_flat, ha]) (by simp)
  | succ d ih =>
    intro i a hi ha hl
    have hlt : i < rs.length := by omega
    have hrow := hz.row hlt
    refine Ev.step (fun _ => entrepotlaw09_PlanNorms.l0.eq_2 ..) (Ev.pos (by omega) (Ev.pos (by omega) ?_))
    rw [rdL_at hlt, wrap64_succ (by omega)]
    refine Ev.pos (by omega) ?_
    refine ih (i + 1) _ (by omega) ?_ (by rw [List.length_append]; omega)
    rw [List.append_assoc, ← flat_from hlt]; exact ha
theorem PlanNorms (rs : List (List Int)) (s : Int) (_ : Open.PlanGood rs) (_ : Open.Plan.WfI s) : ∃ k, entrepotlaw09_PlanNorms.f k rs s = some true := by
  refine Ev.rounds ?_
  unfold entrepotlaw09_PlanNorms.f
  obtain ⟨b, hb, hf⟩ := long_ev rs
  refine Ev.bind hb ?_
  cases b with
  | true => exact Ev.pos rfl (norms_shown s rs)
  | false =>
    have hz := hf rfl
    refine Ev.neg (by simp) (Ev.bind shown_ev (Ev.step (fun _ => entrepotlaw09_PlanNorms.j0.eq_2 ..) (Ev.neg (by simp) ?_)))
    exact Ev.bind (norm_ev hz) (norms_all s hz rs.length 0 [] (by omega) (by simp) (by simp))
end Go.Proofs.Ytdjkhcmblekeiaa.Pure
