/- How many wrongs a plan has hangs on its routes that are not empty alone, not on their order. Plain lemmas. -/
import Derived.Test.YtlncbckpcmojpaaMkj
set_option linter.unusedVariables false
namespace Go.Proofs.Ytlncbckpcmojpaa
open Go.RowKit Go.Proofs.YtlncbckpcmojpaaW.PrintWords Go.Proofs.YtlncbckpcmojpaaW.PrintLast
namespace FeasP
open P FeasWalk StopsWalk AllWalk
theorem sum_filled (g : List Int → Nat) (h0 : g [] = 0) : ∀ rs : List (List Int), (rs.map g).sum = ((filled rs).map g).sum
  | [] => rfl
  | r :: rs => by
    have ih := sum_filled g h0 rs
    unfold filled at ih ⊢
    rw [List.map_cons, List.sum_cons, List.filter_cons, ih]
    cases r with
    | nil => rw [if_neg (by simp), h0, Nat.zero_add]
    | cons a l => rw [if_pos (by simp), List.map_cons, List.sum_cons]
theorem sum_perm (g : List Int → Nat) (h0 : g [] = 0) {rs qs : List (List Int)} (h : (filled rs).Perm (filled qs)) : (rs.map g).sum = (qs.map g).sum := by
  rw [sum_filled g h0 rs, sum_filled g h0 qs]
  exact (h.map g).sum_nat
theorem at_rows {α : Type} (f : Nat → List Int → List α) (g : List Int → Nat) (hf : ∀ i r, (f i r).length = g r) (rs : List (List Int)) : ((List.range rs.length).flatMap fun i : Nat => f i (rd_L1 rs (i : Int))).length = (rs.map g).sum := by
  rw [List.length_flatMap]
  simp only [hf]
  have e := congrArg (List.map g) (rows_eq rs)
  rw [List.map_map] at e
  rw [← e]; rfl
theorem pair_len (x : Look) (i j : Int) (l : List Int) (k : Nat) : (pairB x i l k).length = (pairB x j l k).length := by
  unfold pairB
  repeat' split
  all_goals rfl
theorem route_len (x : Look) (i j : Int) (l : List Int) : (routeB x i l (looksOf x.kd).length).length = (routeB x j l (looksOf x.kd).length).length := by
  rw [route_eq, route_eq]
  have e1 : (loadB x i l).length = (loadB x j l).length := by unfold loadB; split <;> rfl
  have e2 : (lateB x i l).length = (lateB x j l).length := by unfold lateB; split <;> rfl
  have e3 : (pairAll x i l l.length).length = (pairAll x j l l.length).length := by
    unfold pairAll
    rw [List.length_flatMap, List.length_flatMap]
    congr 1
    exact List.map_congr_left fun k _ => pair_len x i j l k
  simp only [List.length_append]
  congr 1
  · split
    · exact e1
    · rfl
  · congr 1
    · split
      · exact e2
      · rfl
    · split
      · exact e3
      · rfl
theorem route_none (x : Look) (i : Int) : routeB x i [] (looksOf x.kd).length = [] := by
  have e1 : loadB x i [] = [] := by
    unfold loadB
    exact if_neg (by show ¬ ((-1 : Int) ≥ 0); omega)
  have e2 : lateB x i [] = [] := by
    unfold lateB
    exact if_neg (by show ¬ ((-1 : Int) ≥ 0); omega)
  have e3 : pairAll x i [] ([] : List Int).length = [] := rfl
  rw [route_eq, e1, e2, e3]
  repeat' split
  all_goals rfl
theorem wrongs_perm (x : Look) {rs qs : List (List Int)} (h : (filled rs).Perm (filled qs)) : (wrongsOf x rs).length = (wrongsOf x qs).length := by
  have eb : ∀ rs : List (List Int), (badAll x rs rs.length).length = (rs.map fun r => (r.filter (badB x)).length).sum := fun rs => at_rows (fun i r => badTo x i r) _ (fun i r => by unfold badTo; rw [List.length_map]) rs
  have er : ∀ rs : List (List Int), (routesB x rs rs.length).length = (rs.map fun r => (routeB x 0 r (looksOf x.kd).length).length).sum := fun rs => at_rows (fun i r => routeB x (i : Int) r (looksOf x.kd).length) _ (fun i r => route_len x _ _ r) rs
  have hb : (badAll x rs rs.length).length = (badAll x qs qs.length).length := by rw [eb, eb]; exact sum_perm _ rfl h
  have hr : (routesB x rs rs.length).length = (routesB x qs qs.length).length := by rw [er, er]; exact sum_perm _ (by rw [route_none]; rfl) h
  have hf : (filled rs).length = (filled qs).length := h.length_eq
  have hc : ∀ c : Int, rs.flatten.count c = qs.flatten.count c := fun c => by
    rw [List.count_flatten, List.count_flatten]
    exact sum_perm _ rfl h
  have hcov : covAll x (counts x.ns.length (stopsOf rs)) x.ns.length = covAll x (counts x.ns.length (stopsOf qs)) x.ns.length := by
    unfold covAll
    rw [List.flatMap_def, List.flatMap_def]
    congr 1
    refine List.map_congr_left fun c hc2 => ?_
    have hc2 := List.mem_range.1 hc2
    unfold covB
    rw [counts_at rs hc2, counts_at qs hc2, hc]
  unfold wrongsOf
  by_cases h1 : badAll x rs rs.length = []
  · have h2 : badAll x qs qs.length = [] := List.length_eq_zero_iff.1 (by rw [← hb, h1]; rfl)
    rw [if_pos h1, if_pos h2]
    simp only [List.length_append]
    rw [hcov, hf, hr]
  · have h2 : badAll x qs qs.length ≠ [] := fun e => h1 (List.length_eq_zero_iff.1 (by rw [hb, e]; rfl))
    rw [if_neg h1, if_neg h2]
    exact hb
theorem empty_len {α β : Type} {a : List α} {b : List β} (h : a.length = b.length) : a.isEmpty = b.isEmpty := by
  cases a <;> cases b <;> simp_all
/-- A plan turned round, with an empty route between. -/
theorem turned_perm (rs : List (List Int)) (k : Nat) : (filled (rs.drop k ++ [[]] ++ rs.take k)).Perm (filled rs) := by
  unfold filled
  rw [List.filter_append, List.filter_append]
  have e : ([[]] : List (List Int)).filter (fun r => decide (0 < r.length)) = [] := rfl
  rw [e, List.append_nil]
  have e2 : rs.filter (fun r => decide (0 < r.length)) = (rs.take k).filter (fun r => decide (0 < r.length)) ++ (rs.drop k).filter (fun r => decide (0 < r.length)) := by rw [← List.filter_append, List.take_append_drop]
  rw [e2]
  exact List.perm_append_comm
theorem filled_twice (rs : List (List Int)) : filled (filled rs) = filled rs := by unfold filled; rw [List.filter_filter]; congr 1; funext r; exact Bool.and_self _
end FeasP
end Go.Proofs.Ytlncbckpcmojpaa
