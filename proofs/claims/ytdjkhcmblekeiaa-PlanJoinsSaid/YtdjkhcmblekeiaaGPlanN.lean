/- Plain lemmas of plans: normal forms, how many stops, whether two are the same. -/
import Derived.Test.YtdjkhcmblekeiaaGPlanC
import Derived.Test.YtdjkhcmblekeiaaPxPlanNorm
import Derived.Test.YtdjkhcmblekeiaaPxPlanMany
namespace Go.Proofs.Ytdjkhcmblekeiaa
open Go.RowKit Go.Proofs.YtdjkhcmblekeiaaW.PrintWords StopsWalk AllWalk P
namespace PlanA
theorem rdL_at {rs : List (List Int)} {i : Nat} (h : i < rs.length) : rd_L1 rs (i : Int) = rs[i] := by unfold rd_L1; simp [h]
/-- Routes that are not empty. -/
def fullB (r : List Int) : Bool := decide (0 < r.length)
def full (rs : List (List Int)) : List (List Int) := rs.filter fullB
theorem Fits.row {rs : List (List Int)} (hz : Fits rs) {i : Nat} (h : i < rs.length) : rs[i].length ≤ 2100 := by have := hz.rows i h; rwa [rdL_at h] at this
theorem full_from {rs : List (List Int)} {i : Nat} (h : i < rs.length) : full (rs.drop i) = (if 0 < rs[i].length then [rs[i]] else []) ++ full (rs.drop (i + 1)) := by
  unfold full
  rw [List.drop_eq_getElem_cons h, List.filter_cons]
  unfold fullB
  by_cases hc : 0 < rs[i].length <;> simp [hc]
theorem norm_from {rs : List (List Int)} (hz : Fits rs) (d : Nat) : ∀ (i : Nat) (acc : List (List Int)), i + d = rs.length → acc.length ≤ i → Ev (fun k => plan_Norm.l0 k rs (rs.length : Int) (i : Int) acc) (acc ++ full (rs.drop i)) := by
  have hl := hz.routes
  induction d with
  | zero =>
    intro i acc hi ha
    refine Ev.step (fun _ => plan_Norm.l0.eq_2 ..) (Ev.neg (by omega) ?_)
    rw [List.drop_of_length_le (by omega)]
    exact Ev.this (by simp [full])
  | succ d ih =>
    intro i acc hi ha
    have hlt : i < rs.length := by omega
    have hr := hz.row hlt
    refine Ev.step (fun _ => plan_Norm.l0.eq_2 ..) (Ev.pos (by omega) (Ev.pos (by omega) (Ev.pos (by omega) ?_)))
    rw [rdL_at hlt, wrap64_succ (by omega), full_from hlt]
    by_cases hc : 0 < rs[i].length
    · refine Ev.pos (by omega) ?_
      rw [if_pos hc]
      refine Ev.bs (x := rs[i]) (by unfold slices_Clone_int_int.f; rw [if_pos (by omega)]) (Ev.pos (by omega) ?_)
      rw [← List.append_assoc]
      exact ih (i + 1) _ (by omega) (by simp; omega)
    · refine Ev.neg (by omega) ?_
      rw [if_neg hc, List.nil_append]
      exact ih (i + 1) acc (by omega) (by omega)
theorem norm_ev {rs : List (List Int)} (hz : Fits rs) : Ev (fun k => plan_Norm.f k rs) (full rs) := norm_from hz rs.length 0 [] (by omega) (by simp)
theorem many_ev {rs : List (List Int)} (hz : Small rs) : Ev (fun k => plan_Many.f k rs) ((stopsOf rs).length : Int) := Ev.of (fun k => plan_Many.mono rs k) (many_tells hz (Nat.lt_succ_self _))
theorem upTo_le {rs : List (List Int)} (hz : Fits rs) {i : Nat} (h : i ≤ rs.length) : (upTo rs i).length ≤ 2100 := by
  have := (upTo_pre rs h).length_le
  have := hz.stops
  unfold stopsOf at this
  omega
theorem planSame_some {a b : List (List Int)} (hz : Fits a) : plan_Same.f a b = some (a == b) := by unfold plan_Same.f; rw [if_pos hz.smallB]
theorem beq_dec (a b : List (List Int)) : (a == b) = decide (a = b) := by
  by_cases h : a = b
  · rw [h]; simp
  · rw [beq_eq_false_iff_ne.2 h, decide_eq_false h]
theorem full_fits {rs : List (List Int)} (hz : Fits rs) (hs : (stopsOf (full rs)).length ≤ 2100) : Fits (full rs) := by
  refine ⟨Nat.le_trans (List.length_filter_le _ _) hz.routes, fun i hi => ?_, hs⟩
  rw [rdL_at hi]
  obtain ⟨j, hj, e⟩ := List.getElem_of_mem (List.mem_filter.1 (List.getElem_mem hi)).1
  rw [← e]; exact hz.row hj
end PlanA
end Go.Proofs.Ytdjkhcmblekeiaa
