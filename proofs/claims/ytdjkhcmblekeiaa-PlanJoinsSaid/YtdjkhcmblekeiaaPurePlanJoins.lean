/- Whatever the two plans and the stop, if they are within the bound: of both put together the stops are those of the first, then those of the second. -/
import Derived.Test.YtdjkhcmblekeiaaPxEntrepotlaw09PlanJoins
import Derived.Test.YtdjkhcmblekeiaaGPlanE
import Derived.Test.YtdjkhcmblekeiaaGOpenPlan
namespace Go.Proofs.Ytdjkhcmblekeiaa.Pure
open Go.RowKit Go.Proofs.Ytdjkhcmblekeiaa.P Go.Proofs.YtdjkhcmblekeiaaW.PrintWords Go.Proofs.YtdjkhcmblekeiaaW.PrintLast StopsWalk AllWalk PlanA

/-- A stop of the second plan, in both. -/
def shift (n : Nat) (x : Stop) : Stop := ((x.1.1 + n, x.1.2), x.2)
theorem route_left (a b : List (List Int)) {i : Nat} (h : i < a.length) : ofRoute (a ++ b) i = ofRoute a i := by
  have e : rd_L1 (a ++ b) (i : Int) = rd_L1 a (i : Int) := by rw [rdL_at (by rw [List.length_append]; omega), rdL_at h, List.getElem_append_left h]
  unfold ofRoute
  rw [e]
theorem route_right (a b : List (List Int)) {i : Nat} (h : i < b.length) : ofRoute (a ++ b) (a.length + i) = (ofRoute b i).map (shift a.length) := by
  have e : rd_L1 (a ++ b) ((a.length + i : Nat) : Int) = rd_L1 b (i : Int) := by
    rw [rdL_at (by rw [List.length_append]; omega), rdL_at h, List.getElem_append_right (by omega)]
    congr 1; omega
  unfold ofRoute
  rw [e, List.map_map]
  congr 1
  funext x
  unfold tag shift
  simp [Nat.add_comm]
theorem flatMap_same {α β : Type} {f g : α → List β} : ∀ {l : List α}, (∀ x ∈ l, f x = g x) → l.flatMap f = l.flatMap g
  | [], _ => rfl
  | x :: l, h => by rw [List.flatMap_cons, List.flatMap_cons, h x (by simp), flatMap_same (fun y hy => h y (by simp [hy]))]
theorem stops_join (a b : List (List Int)) : stopsOf (a ++ b) = stopsOf a ++ (stopsOf b).map (shift a.length) := by
  unfold stopsOf upTo
  rw [List.length_append, List.range_add, List.flatMap_append, List.map_flatMap, List.flatMap_map]
  congr 1
  · refine flatMap_same fun i hi => route_left a b (List.mem_range.1 hi)
  · refine flatMap_same fun i hi => route_right a b (List.mem_range.1 hi)
theorem join_small {a b : List (List Int)} (ha : Fits a) (hb : Fits b) : smallB (a ++ b) = true := by
  have h1 := ha.routes
  have h2 := hb.routes
  simp only [smallB, Bool.and_eq_true, decide_eq_true_eq, List.all_eq_true, List.length_append]
  refine ⟨by omega, fun r hr => ?_⟩
  rcases List.mem_append.1 hr with h | h
  · obtain ⟨i, hi, rfl⟩ := List.getElem_of_mem h
    have := ha.row hi; omega
  · obtain ⟨i, hi, rfl⟩ := List.getElem_of_mem h
    have := hb.row hi; omega
theorem countP_shift (n : Nat) (l : List Stop) (c : Int) : (l.map (shift n)).countP (fun x => x.2 == c) = l.countP (fun x => x.2 == c) := by rw [List.countP_map]; rfl
theorem count_join (a b : List (List Int)) {i : Nat} (h : i < 30) : rd (counts 30 (stopsOf (a ++ b))) (i : Int) = rd (counts 30 (stopsOf a)) (i : Int) + rd (counts 30 (stopsOf b)) (i : Int) := by
  unfold rd
  rw [Int.toNat_natCast, counts_getD _ _ h, counts_getD _ _ h, counts_getD _ _ h, stops_join, List.countP_append, countP_shift, Int.natCast_add]
theorem find_join (a b : List (List Int)) (s : Int) : (stopsOf (a ++ b)).find? (fun y => y.2 == s) = ((stopsOf a).find? (fun y => y.2 == s)).or (((stopsOf b).find? (fun y => y.2 == s)).map (shift a.length)) := by
  rw [stops_join, List.find?_append, List.find?_map]
  rfl
variable {a b : List (List Int)} (s : Int)
theorem joins_last (ha : Fits a) (hb : Fits b) (c1 c2 c3 : List Int) : Ev (fun k => entrepotlaw09_PlanJoins.l0 k s c1 c2 c3 ((30 : Nat) : Int) a b (a ++ b)) true := by
  have hr := ha.routes
  refine Ev.step (fun _ => entrepotlaw09_PlanJoins.l0.eq_2 ..) (Ev.neg (by omega) ?_)
  refine Ev.bs (planFind_some ha s) (Ev.bs (planFind_some hb s) (Ev.bs (x := hit ((stopsOf (a ++ b)).find? (fun y => y.2 == s))) (by unfold plan_Find.f; rw [if_pos (join_small ha hb)]; congr 1) ?_))
  rw [find_join]
  cases h1 : (stopsOf a).find? (fun y => y.2 == s) with
  | some x => exact Ev.pos rfl (Ev.pos rfl (Ev.pos rfl (Ev.this (by simp [hit]))))
  | none =>
    refine Ev.neg (by simp [hit]) ?_
    cases h2 : (stopsOf b).find? (fun y => y.2 == s) with
    | none => exact Ev.pos rfl (Ev.pos rfl (Ev.neg (by simp [hit]) (Ev.pos rfl (Ev.now _))))
    | some x =>
      have hm := (mem_stops (List.mem_of_find?_eq_some h2)).1
      have hbr := hb.routes
      refine Ev.pos rfl (Ev.pos rfl (Ev.pos rfl (Ev.this ?_)))
      simp only [hit, Option.map_some, Option.none_or, shift]
      rw [wrap64_id (by omega) (by omega), ← Int.natCast_add]
      simp
theorem joins_counts (ha : Fits a) (hb : Fits b) (d : Nat) : ∀ i : Nat, i + d = 30 → Ev (fun k => entrepotlaw09_PlanJoins.l0 k s (counts 30 (stopsOf a)) (counts 30 (stopsOf b)) (counts 30 (stopsOf (a ++ b))) (i : Int) a b (a ++ b)) true := by
  induction d with
  | zero =>
    intro i hi
    obtain rfl : i = 30 := by omega
    exact joins_last s ha hb _ _ _
  | succ d ih =>
    intro i hi
    have hlt : i < 30 := by omega
    refine Ev.step (fun _ => entrepotlaw09_PlanJoins.l0.eq_2 ..) (Ev.pos (by omega) (Ev.pos (by omega) (Ev.pos (by rw [counts_length]; omega) (Ev.pos (by rw [counts_length]; omega) (Ev.pos (by rw [counts_length]; omega) (Ev.pos ?_ ?_))))))
    · have h1 := ha.stops
      have h2 := hb.stops
      have e1 : (stopsOf a).countP (fun x => x.2 == (i : Int)) ≤ (stopsOf a).length := List.countP_le_length
      have e2 : (stopsOf b).countP (fun x => x.2 == (i : Int)) ≤ (stopsOf b).length := List.countP_le_length
      rw [count_join a b hlt]
      unfold rd
      rw [Int.toNat_natCast, counts_getD _ _ hlt, counts_getD _ _ hlt, wrap64_id (by omega) (by omega)]
    · rw [wrap64_succ (by omega)]
      exact ih (i + 1) (by omega)
theorem joins_shown : Ev (fun k => entrepotlaw09_PlanJoins.j0 k s true a b) true :=
  Ev.step (fun _ => entrepotlaw09_PlanJoins.j0.eq_2 ..) (Ev.pos rfl (Ev.bind shown_ev (Ev.now _)))
theorem joins_told (ha : Fits a) (hb : Fits b) : Ev (fun k => entrepotlaw09_PlanJoins.j0 k s false a b) true := by
  have h1 := ha.routes
  have h2 := hb.routes
  have s1 := ha.stops
  have s2 := hb.stops
  refine Ev.step (fun _ => entrepotlaw09_PlanJoins.j0.eq_2 ..) (Ev.neg (by simp) ?_)
  refine Ev.bs rfl (Ev.pos (by simp; omega) (Ev.bs rfl (Ev.pos (by simp; omega) (Ev.bs rfl ?_))))
  rw [List.nil_append]
  have hc : plan_Count.f (a ++ b) 30 = some (counts 30 (stopsOf (a ++ b))) := by
    unfold plan_Count.f; rw [if_pos (join_small ha hb), if_neg (by omega)]; rfl
  have hca : plan_Count.f a 30 = some (counts 30 (stopsOf a)) := by rw [planCount_some ha, if_neg (by omega)]; rfl
  have hcb : plan_Count.f b 30 = some (counts 30 (stopsOf b)) := by rw [planCount_some hb, if_neg (by omega)]; rfl
  refine Ev.bs hca (Ev.bs hcb (Ev.bs hc (Ev.pos (by rw [counts_length]; rfl) (Ev.pos (by rw [counts_length]; rfl) (Ev.pos (by rw [counts_length]; rfl) ?_)))))
  refine Ev.bind (many_ev (small_of (join_small ha hb))) (Ev.bind (many_ev ha.small) (Ev.bind (many_ev hb.small) ?_))
  rw [stops_join, List.length_append, List.length_map, wrap64_id (by omega) (by omega), ← Int.natCast_add, bne_self_eq_false]
  rw [← stops_join]
  refine Ev.step (fun _ => entrepotlaw09_PlanJoins.j1.eq_2 ..) (Ev.neg (by simp) ?_)
  exact joins_counts s ha hb 30 0 (by omega)
theorem PlanJoins (a b : List (List Int)) (s : Int) (_ : Open.PlanGood a) (_ : Open.PlanGood b) (_ : Open.Plan.WfI s) : ∃ k, entrepotlaw09_PlanJoins.f k a b s = some true := by
  refine Ev.rounds ?_
  unfold entrepotlaw09_PlanJoins.f
  obtain ⟨x, hx, fx⟩ := long_ev a
  obtain ⟨y, hy, fy⟩ := long_ev b
  refine Ev.bind hx ?_
  cases x with
  | true => exact Ev.pos rfl (joins_shown s)
  | false =>
    refine Ev.neg (by simp) (Ev.bind hy ?_)
    cases y with
    | true => exact Ev.pos rfl (joins_shown s)
    | false => exact Ev.neg (by simp) (Ev.bind shown_ev (joins_told s (fx rfl) (fy rfl)))
end Go.Proofs.Ytdjkhcmblekeiaa.Pure
