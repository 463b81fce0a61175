/- Plain lemmas of plans: normal forms, how many stops, whether two are the same. -/
import Derived.Test.YtdjkhcmblekeiaaGPlanC
import Derived.Test.YtdjkhcmblekeiaaPxPlanNorm
import Derived.Test.YtdjkhcmblekeiaaPxPlanMany
import Derived.Test.YtdjkhcmblekeiaaPxEntrepotref09Many
import Derived.Test.YtdjkhcmblekeiaaPxEntrepotref09Norm
import Derived.Test.YtdjkhcmblekeiaaPxEntrepotref09Same
import Derived.Test.YtdjkhcmblekeiaaPxEntrepotref09Check
namespace Go.Proofs.Ytdjkhcmblekeiaa
open Go.RowKit Go.Proofs.YtdjkhcmblekeiaaW.PrintWords StopsWalk AllWalk P
namespace PlanA
theorem rdL_at {rs : List (List Int)} {i : Nat} (h : i < rs.length) : rd_L1 rs (i : Int) = rs[i] := by unfold rd_L1; simp [h]
/-- Routes that are not empty. -/
def fullB (r : List Int) : Bool := decide (0 < r.length)
def full (rs : List (List Int)) : List (List Int) := rs.filter fullB
theorem Fits.row {rs : List (List Int)} (hz : Fits rs) {i : Nat} (h : i < rs.length) : rs[i].length ≤ 2100 := by have := hz.rows i h; rwa [rdL_at h] at this
theorem full_from {rs : List (List Int)} {i : Nat} (h : i < rs.length) : full (rs.drop i) = (if 0 < rs[i].length then [rs[i]] else []) ++ full (rs.drop (i + 1)) := by
  unfold full
  rw [List.drop_eq_getElem_cons h, List.filter_cons]
  unfold fullB
  by_cases hc : 0 < rs[i].length <;> simp [hc]
theorem norm_from {rs : List (List Int)} (hz : Fits rs) (d : Nat) : ∀ (i : Nat) (acc : List (List Int)), i + d = rs.length → acc.length ≤ i → Ev (fun k => plan_Norm.l0 k rs (rs.length : Int) (i : Int) acc) (acc ++ full (rs.drop i)) := by
  have hl := hz.routes
  induction d with
  | zero =>
    intro i acc hi ha
    refine Ev.step (fun _ => plan_Norm.l0.eq_2 ..) (Ev.neg (by omega) ?_)
    rw [List.drop_of_length_le (by omega)]
    exact Ev.this (by simp [full])
  | succ d ih =>
    intro i acc hi ha
    have hlt : i < rs.length := by omega
    have hr := hz.row hlt
    refine Ev.step (fun _ => plan_Norm.l0.eq_2 ..) (Ev.pos (by omega) (Ev.pos (by omega) (Ev.pos (by omega) ?_)))
    rw [rdL_at hlt, wrap64_succ (by omega), full_from hlt]
    by_cases hc : 0 < rs[i].length
    · refine Ev.pos (by omega) ?_
      rw [if_pos hc]
      refine Ev.bs (x := rs[i]) (by unfold slices_Clone_int_int.f; rw [if_pos (by omega)]) (Ev.pos (by omega) ?_)
      rw [← List.append_assoc]
      exact ih (i + 1) _ (by omega) (by simp; omega)
    · refine Ev.neg (by omega) ?_
      rw [if_neg hc, List.nil_append]
      exact ih (i + 1) acc (by omega) (by omega)
theorem norm_ev {rs : List (List Int)} (hz : Fits rs) : Ev (fun k => plan_Norm.f k rs) (full rs) := norm_from hz rs.length 0 [] (by omega) (by simp)
theorem refNorm_from {rs : List (List Int)} (hz : Fits rs) (d : Nat) : ∀ (i : Nat) (acc : List (List Int)), i + d = rs.length → acc.length ≤ i → Ev (fun k => entrepotref09_Norm.l0 k (i : Int) rs acc) (acc ++ full (rs.drop i)) := by
  have hl := hz.routes
  induction d with
  | zero =>
    intro i acc hi ha
    refine Ev.step (fun _ => entrepotref09_Norm.l0.eq_2 ..) (Ev.neg (by omega) ?_)
    rw [List.drop_of_length_le (by omega)]
    exact Ev.this (by simp [full])
  | succ d ih =>
    intro i acc hi ha
    have hlt : i < rs.length := by omega
    have hr := hz.row hlt
    refine Ev.step (fun _ => entrepotref09_Norm.l0.eq_2 ..) (Ev.pos (by omega) (Ev.pos (by omega) ?_))
    rw [rdL_at hlt, wrap64_succ (by omega), full_from hlt]
    by_cases hc : 0 < rs[i].length
    · refine Ev.pos (by omega) ?_
      rw [if_pos hc]
      refine Ev.bs rfl (Ev.pos (by simp; omega) (Ev.pos (by omega) ?_))
      rw [← List.append_assoc, List.nil_append]
      exact ih (i + 1) _ (by omega) (by simp; omega)
    · refine Ev.neg (by omega) ?_
      rw [if_neg hc, List.nil_append]
      exact ih (i + 1) acc (by omega) (by omega)
theorem refNorm_ev {rs : List (List Int)} (hz : Fits rs) : Ev (fun k => entrepotref09_Norm.f k rs) (full rs) := refNorm_from hz rs.length 0 [] (by omega) (by simp)
theorem many_ev {rs : List (List Int)} (hz : Small rs) : Ev (fun k => plan_Many.f k rs) ((stopsOf rs).length : Int) := Ev.of (fun k => plan_Many.mono rs k) (many_tells hz (Nat.lt_succ_self _))
theorem upTo_le {rs : List (List Int)} (hz : Fits rs) {i : Nat} (h : i ≤ rs.length) : (upTo rs i).length ≤ 2100 := by
  have := (upTo_pre rs h).length_le
  have := hz.stops
  unfold stopsOf at this
  omega
theorem refMany_from {rs : List (List Int)} (hz : Fits rs) (d : Nat) : ∀ (i : Nat), i + d = rs.length → Ev (fun k => entrepotref09_Many.l0 k ((upTo rs i).length : Int) (i : Int) rs) ((stopsOf rs).length : Int) := by
  have hl := hz.routes
  induction d with
  | zero =>
    intro i hi
    obtain rfl : i = rs.length := by omega
    exact Ev.step (fun _ => entrepotref09_Many.l0.eq_2 ..) (Ev.neg (by omega) (Ev.now _))
  | succ d ih =>
    intro i hi
    have hlt : i < rs.length := by omega
    have h1 := upTo_le hz (show i + 1 ≤ rs.length by omega)
    have e1 : wrap64 (((upTo rs i).length : Int) + ((rd_L1 rs (i : Int)).length : Int)) = ((upTo rs (i + 1)).length : Int) := by
      rw [upTo_succ, List.length_append, ofRoute_length] at h1 ⊢
      rw [wrap64_id (by omega) (by omega)]; omega
    refine Ev.step (fun _ => entrepotref09_Many.l0.eq_2 ..) (Ev.pos (by omega) (Ev.pos (by omega) ?_))
    rw [e1, wrap64_succ (by omega)]
    exact ih (i + 1) (by omega)
theorem refMany_ev {rs : List (List Int)} (hz : Fits rs) : Ev (fun k => entrepotref09_Many.f k rs) ((stopsOf rs).length : Int) := by
  have h := refMany_from hz rs.length 0 (by omega)
  simp only [upTo, List.range_zero, List.flatMap_nil, List.length_nil] at h
  exact h
theorem refSame_from {a b : List (List Int)} (hz : ∀ (i : Nat) (h : i < a.length), a[i].length ≤ 2100) (hr : a.length ≤ 410) (hl : a.length = b.length) (d : Nat) : ∀ (i : Nat), i + d = a.length → Ev (fun k => entrepotref09_Same.l0 k (i : Int) a b) (decide (a.drop i = b.drop i)) := by
  induction d with
  | zero =>
    intro i hi
    refine Ev.step (fun _ => entrepotref09_Same.l0.eq_2 ..) (Ev.neg (by omega) ?_)
    rw [List.drop_of_length_le (by omega), List.drop_of_length_le (by omega)]
    exact Ev.now _
  | succ d ih =>
    intro i hi
    have ha : i < a.length := by omega
    have hb : i < b.length := by omega
    have hrow := hz i ha
    refine Ev.step (fun _ => entrepotref09_Same.l0.eq_2 ..) (Ev.pos (by omega) (Ev.pos (by omega) (Ev.pos (by omega) ?_)))
    rw [rdL_at ha, rdL_at hb, wrap64_succ (by omega), List.drop_eq_getElem_cons ha, List.drop_eq_getElem_cons hb]
    refine Ev.bind (ints_ev _ _ (by omega)) ?_
    by_cases h : a[i] = b[i]
    · refine Ev.pos (decide_eq_true h) (Ev.eq (ih (i + 1) (by omega)) ?_)
      rw [decide_eq_decide]
      exact ⟨fun e => by rw [h, e], fun e => (List.cons.inj e).2⟩
    · refine Ev.neg (by simpa using h) (Ev.this ?_)
      rw [decide_eq_false (fun e => h (List.cons.inj e).1)]
theorem refSame_ev' {a b : List (List Int)} (hz : ∀ (i : Nat) (h : i < a.length), a[i].length ≤ 2100) (hr : a.length ≤ 410) : Ev (fun k => entrepotref09_Same.f k a b) (decide (a = b)) := by
  unfold entrepotref09_Same.f
  by_cases hl : a.length = b.length
  · refine Ev.pos (by omega) ?_
    have := refSame_from hz hr hl a.length 0 (by omega)
    simpa using this
  · refine Ev.neg (by omega) (Ev.this ?_)
    rw [decide_eq_false (fun e => hl (by rw [e]))]
theorem refSame_ev {a b : List (List Int)} (hz : Fits a) : Ev (fun k => entrepotref09_Same.f k a b) (decide (a = b)) := refSame_ev' (fun _ h => hz.row h) hz.routes
theorem planSame_some {a b : List (List Int)} (hz : Fits a) : plan_Same.f a b = some (a == b) := by unfold plan_Same.f; rw [if_pos hz.smallB]
theorem beq_dec (a b : List (List Int)) : (a == b) = decide (a = b) := by
  by_cases h : a = b
  · rw [h]; simp
  · rw [beq_eq_false_iff_ne.2 h, decide_eq_false h]
theorem full_fits {rs : List (List Int)} (hz : Fits rs) (hs : (stopsOf (full rs)).length ≤ 2100) : Fits (full rs) := by
  refine ⟨Nat.le_trans (List.length_filter_le _ _) hz.routes, fun i hi => ?_, hs⟩
  rw [rdL_at hi]
  obtain ⟨j, hj, e⟩ := List.getElem_of_mem (List.mem_filter.1 (List.getElem_mem hi)).1
  rw [← e]; exact hz.row hj
/-- A stop that may not be, among the rest of a plan. -/
def badB (x : Stop) : Bool := decide (bad x)
theorem refCheck_inner {rs : List (List Int)} (hz : Fits rs) {i : Nat} (hlt : i < rs.length) (next : Ev (fun k => entrepotref09_Check.l0 k ((i + 1 : Nat) : Int) rs) (if (from_ rs (i + 1)).any badB then 1 else 0)) :
    ∀ (e j : Nat), j + e = (rd_L1 rs (i : Int)).length → Ev (fun k => entrepotref09_Check.l1 k (i : Int) (j : Int) rs) (if (rest rs i j ++ from_ rs (i + 1)).any badB then 1 else 0) := by
  have hrow := hz.rows i hlt
  have hlen := hz.routes
  intro e
  induction e with
  | zero =>
    intro j hj
    obtain rfl : j = (rd_L1 rs (i : Int)).length := by omega
    rw [rest_end, List.nil_append]
    refine Ev.step (fun _ => entrepotref09_Check.l1.eq_2 ..) (Ev.pos (by omega) (Ev.pos (by omega) (Ev.neg (by omega) ?_)))
    rw [wrap64_succ (by omega)]
    exact next
  | succ e ih =>
    intro j hj
    rw [rest_succ rs (by omega), List.cons_append, List.any_cons]
    refine Ev.step (fun _ => entrepotref09_Check.l1.eq_2 ..) (Ev.pos (by omega) (Ev.pos (by omega) (Ev.pos (by omega) (Ev.pos (by omega) ?_))))
    have hb : badB ((i, j), rd (rd_L1 rs (i : Int)) (j : Int)) = decide (rd (rd_L1 rs (i : Int)) (j : Int) < 0 ∨ 400 ≤ rd (rd_L1 rs (i : Int)) (j : Int)) := rfl
    rw [hb, wrap64_succ (i := j) (by omega)]
    by_cases h1 : rd (rd_L1 rs (i : Int)) (j : Int) < 0
    · refine Ev.pos h1 (Ev.this ?_)
      rw [decide_eq_true (Or.inl h1), Bool.true_or, if_pos rfl]
    · refine Ev.neg h1 ?_
      by_cases h2 : rd (rd_L1 rs (i : Int)) (j : Int) > 399
      · refine Ev.pos h2 (Ev.this ?_)
        rw [decide_eq_true (Or.inr (by omega)), Bool.true_or, if_pos rfl]
      · refine Ev.neg h2 ?_
        rw [decide_eq_false (by omega), Bool.false_or]
        exact ih (j + 1) (by omega)
theorem refCheck_outer {rs : List (List Int)} (hz : Fits rs) (d : Nat) : ∀ i, i + d = rs.length → Ev (fun k => entrepotref09_Check.l0 k (i : Int) rs) (if (from_ rs i).any badB then 1 else 0) := by
  induction d with
  | zero =>
    intro i hi
    obtain rfl : i = rs.length := by omega
    refine Ev.step (fun _ => entrepotref09_Check.l0.eq_2 ..) (Ev.neg (by omega) ?_)
    rw [from_end]; exact Ev.now _
  | succ d ih =>
    intro i hi
    have hlt : i < rs.length := by omega
    refine Ev.step (fun _ => entrepotref09_Check.l0.eq_2 ..) (Ev.pos (by omega) ?_)
    rw [from_succ rs hlt, ← rest_zero]
    exact refCheck_inner hz hlt (ih (i + 1) (by omega)) (rd_L1 rs (i : Int)).length 0 (by omega)
theorem refCheck_ev {rs : List (List Int)} (hz : Fits rs) : Ev (fun k => entrepotref09_Check.f k rs) (checkOf rs) := by
  unfold entrepotref09_Check.f checkOf
  by_cases h1 : 400 < rs.length
  · refine Ev.pos (by omega) (Ev.step (fun _ => entrepotref09_Check.j0.eq_2 ..) (Ev.pos rfl ?_))
    rw [if_pos (.inl h1)]; exact Ev.now _
  · refine Ev.neg (by omega) (Ev.bind (refMany_ev hz) (Ev.step (fun _ => entrepotref09_Check.j0.eq_2 ..) ?_))
    by_cases h2 : 2000 < (stopsOf rs).length
    · refine Ev.pos (by simp; omega) ?_
      rw [if_pos (.inr h2)]; exact Ev.now _
    · refine Ev.neg (by simp; omega) ?_
      rw [if_neg (by omega)]
      refine Ev.eq (refCheck_outer hz rs.length 0 (by omega)) ?_
      rw [from_zero]
      by_cases h : ∃ x ∈ stopsOf rs, bad x
      · rw [if_pos h, if_pos (by obtain ⟨x, hx, hb⟩ := h; exact List.any_eq_true.2 ⟨x, hx, decide_eq_true hb⟩)]
      · rw [if_neg h, if_neg (fun e => h (by obtain ⟨x, hx, hb⟩ := List.any_eq_true.1 e; exact ⟨x, hx, of_decide_eq_true hb⟩))]
theorem planCheck_some {rs : List (List Int)} (hz : Fits rs) : plan_Check.f rs = some (checkOf rs) := by unfold plan_Check.f; rw [if_pos hz.smallB]
end PlanA
end Go.Proofs.Ytdjkhcmblekeiaa
