/- Plain lemmas of plans: stops in a normal form; which stops there are. -/
import Derived.Test.YtdjkhcmblekeiaaGPlanC
import Derived.Test.YtdjkhcmblekeiaaGPlanN
namespace Go.Proofs.Ytdjkhcmblekeiaa
open Go.RowKit Go.Proofs.YtdjkhcmblekeiaaW.PrintWords StopsWalk AllWalk P
namespace PlanA
/-- The stops of a route, with their places on it. -/
def onRoute (r : List Int) : List (Nat × Int) := upto (inner r) r.length
def noRoute (x : Stop) : Nat × Int := (x.1.2, x.2)
theorem range_rows {β : Type} (G : List Int → List β) (rs : List (List Int)) : (List.range rs.length).flatMap (fun i : Nat => G (rd_L1 rs (i : Int))) = rs.flatMap G := by
  have e : (List.range rs.length).map (fun i : Nat => rd_L1 rs (i : Int)) = rs := by
    refine List.ext_getElem (by simp) fun i h1 h2 => ?_
    rw [List.getElem_map, List.getElem_range, rdL_at h2]
  rw [← List.flatMap_map (f := fun i : Nat => rd_L1 rs (i : Int)) (g := G), e]
theorem stops_map (rs : List (List Int)) : (stopsOf rs).map noRoute = rs.flatMap onRoute := by
  rw [← range_rows]
  unfold stopsOf upTo
  rw [List.map_flatMap]
  congr 1
  funext i
  unfold ofRoute
  rw [List.map_map]
  exact List.map_id _
theorem full_map (rs : List (List Int)) : (full rs).flatMap onRoute = rs.flatMap onRoute := by
  unfold full
  induction rs with
  | nil => rfl
  | cons r rs ih =>
    rw [List.filter_cons, List.flatMap_cons, ← ih]
    by_cases h : fullB r = true
    · rw [if_pos h, List.flatMap_cons]
    · rw [if_neg h]
      have : r = [] := by unfold fullB at h; cases r with
        | nil => rfl
        | cons a t => simp at h
      subst this
      rfl
theorem full_same (rs : List (List Int)) : (stopsOf (full rs)).map noRoute = (stopsOf rs).map noRoute := by rw [stops_map, stops_map, full_map]
theorem full_length (rs : List (List Int)) : (stopsOf (full rs)).length = (stopsOf rs).length := by
  have := congrArg List.length (full_same rs)
  simpa using this
theorem find_map (l : List Stop) (s : Int) : (l.find? (fun y => y.2 == s)).map noRoute = (l.map noRoute).find? (fun y => y.2 == s) := by
  rw [List.find?_map]; rfl
theorem full_find (rs : List (List Int)) (s : Int) : (hit ((stopsOf (full rs)).find? (fun y => y.2 == s))).2 = (hit ((stopsOf rs).find? (fun y => y.2 == s))).2 := by
  have e : ((stopsOf (full rs)).find? (fun y => y.2 == s)).map noRoute = ((stopsOf rs).find? (fun y => y.2 == s)).map noRoute := by rw [find_map, find_map, full_same]
  generalize (stopsOf (full rs)).find? (fun y => y.2 == s) = a at *
  generalize (stopsOf rs).find? (fun y => y.2 == s) = b at *
  cases a <;> cases b <;> simp_all [hit, noRoute]
theorem countP_map' (l : List Stop) (c : Int) : l.countP (fun y => y.2 == c) = (l.map noRoute).countP (fun y => y.2 == c) := by rw [List.countP_map]; rfl
theorem full_counts (n : Nat) (rs : List (List Int)) : counts n (stopsOf (full rs)) = counts n (stopsOf rs) := by
  unfold counts
  congr 1
  funext c
  rw [countP_map', countP_map' (stopsOf rs), full_same]
theorem full_fit {rs : List (List Int)} (hz : Fits rs) : Fits (full rs) := full_fits hz (by rw [full_length]; exact hz.stops)
theorem full_full (rs : List (List Int)) : full (full rs) = full rs := by unfold full; rw [List.filter_filter]; congr 1; funext r; simp
theorem full_flat (rs : List (List Int)) : (full rs).flatten = rs.flatten := by
  unfold full
  induction rs with
  | nil => rfl
  | cons r rs ih =>
    rw [List.filter_cons, List.flatten_cons, ← ih]
    by_cases h : fullB r = true
    · rw [if_pos h, List.flatten_cons]
    · rw [if_neg h]
      have : r = [] := by unfold fullB at h; cases r with
        | nil => rfl
        | cons a t => simp at h
      subst this
      rfl
theorem flat_le {rs : List (List Int)} (h : ∀ (i : Nat) (h : i < rs.length), rs[i].length ≤ 2100) : rs.flatten.length ≤ 2100 * rs.length := by
  induction rs with
  | nil => simp
  | cons r rs ih =>
    have h0 := h 0 (by simp)
    have h1 := ih (fun i hi => by have := h (i + 1) (by simpa using hi); simpa using this)
    simp only [List.flatten_cons, List.length_append, List.length_cons] at *
    simp only [List.getElem_cons_zero] at h0
    omega
theorem flat_from {rs : List (List Int)} {i : Nat} (h : i < rs.length) : (rs.drop i).flatten = rs[i] ++ (rs.drop (i + 1)).flatten := by
  rw [List.drop_eq_getElem_cons h, List.flatten_cons]
/-- A stop stands where it is told. -/
theorem mem_stops {rs : List (List Int)} {x : Stop} (h : x ∈ stopsOf rs) : x.1.1 < rs.length ∧ x.1.2 < (rd_L1 rs (x.1.1 : Int)).length ∧ rd (rd_L1 rs (x.1.1 : Int)) (x.1.2 : Int) = x.2 := by
  unfold stopsOf upTo at h
  obtain ⟨i, hi, hx⟩ := List.mem_flatMap.1 h
  have hi := List.mem_range.1 hi
  unfold ofRoute at hx
  obtain ⟨y, hy, rfl⟩ := List.mem_map.1 hx
  unfold upto at hy
  obtain ⟨j, hj, rfl⟩ := List.mem_map.1 hy
  exact ⟨hi, List.mem_range.1 hj, rfl⟩
def inB (n : Nat) (x : Stop) : Bool := decide (0 ≤ x.2 ∧ x.2 < (n : Int))
theorem counts_sum (n : Nat) (l : List Stop) : (counts n l).sum = ((l.countP (inB n) : Nat) : Int) := by
  induction n with
  | zero =>
    have : l.countP (inB 0) = 0 := List.countP_eq_zero.2 fun x _ => by unfold inB; simp <;> omega
    rw [this]; rfl
  | succ n ih =>
    have e : counts (n + 1) l = counts n l ++ [((l.countP (fun x => x.2 == (n : Int)) : Nat) : Int)] := by simp [counts, List.range_succ]
    rw [e, List.sum_append, ih]
    simp only [List.sum_cons, List.sum_nil, Int.add_zero]
    rw [← Int.natCast_add]
    congr 1
    clear ih e
    induction l with
    | nil => rfl
    | cons x l ih =>
      by_cases h1 : 0 ≤ x.2 ∧ x.2 < (n : Int)
      · rw [List.countP_cons_of_pos (p := inB n) (decide_eq_true h1), List.countP_cons_of_pos (p := inB (n + 1)) (decide_eq_true (by omega)), List.countP_cons_of_neg (by simp; omega)]
        omega
      · by_cases h2 : x.2 = (n : Int)
        · rw [List.countP_cons_of_neg (p := inB n) (by unfold inB; simp <;> omega), List.countP_cons_of_pos (p := inB (n + 1)) (decide_eq_true (by omega)), List.countP_cons_of_pos (by simpa using h2)]
          omega
        · rw [List.countP_cons_of_neg (p := inB n) (by unfold inB; simp <;> omega), List.countP_cons_of_neg (p := inB (n + 1)) (by unfold inB; simp <;> omega), List.countP_cons_of_neg (by simpa using h2)]
          omega
end PlanA
end Go.Proofs.Ytdjkhcmblekeiaa
