/- Texts of this session in one: What feas.Check tells, in plain words: which wrongs there are, and how they stand. Plain lemmas on lists.; Two instances that are alike for what feas.Check asks: the same wrongs, or no more. Plain lemmas. -/
import Derived.Test.YtlncbckpcmojpaaMkg
import Derived.Test.YtlncbckpcmojpaaMki
set_option linter.unusedVariables false
namespace Go.Proofs.Ytlncbckpcmojpaa
open Go.RowKit Go.Proofs.YtlncbckpcmojpaaW.PrintWords Go.Proofs.YtlncbckpcmojpaaW.PrintLast
namespace FeasP
open P FeasWalk StopsWalk AllWalk
theorem rows_eq (rs : List (List Int)) : (List.range rs.length).map (fun i : Nat => rd_L1 rs (i : Int)) = rs := by
  refine List.ext_getElem (by simp) fun i h1 h2 => ?_
  rw [List.getElem_map, List.getElem_range, Well11.rd1_at h2]
theorem nums_eq (r : List Int) : (List.range r.length).map (fun i : Nat => rd r (i : Int)) = r := by
  refine List.ext_getElem (by simp) fun i h1 h2 => ?_
  rw [List.getElem_map, List.getElem_range]; unfold rd; rw [Int.toNat_natCast, List.getD_eq_getElem?_getD, List.getElem?_eq_getElem h2]; rfl
theorem stops_vals (rs : List (List Int)) : (stopsOf rs).map (fun y => y.2) = rs.flatten := by
  have e : ∀ i : Nat, (ofRoute rs i).map (fun y => y.2) = rd_L1 rs (i : Int) := fun i => by
    unfold ofRoute upto
    rw [List.map_map, List.map_map]
    exact nums_eq _
  unfold stopsOf upTo
  rw [List.map_flatMap]
  simp only [e]
  rw [List.flatMap_def, rows_eq]
theorem counts_at (rs : List (List Int)) {n c : Nat} (hc : c < n) : (counts n (stopsOf rs)).getD c 0 = ((rs.flatten.count (c : Int) : Nat) : Int) := by
  rw [counts_getD _ _ hc, ← stops_vals, List.count, List.countP_map]; rfl
theorem route_eq (x : Look) (i : Int) (l : List Int) : routeB x i l (looksOf x.kd).length = (if 2 ≤ x.kd ∧ x.kd ≤ 4 then loadB x i l else []) ++ ((if 3 ≤ x.kd ∧ x.kd ≤ 4 then lateB x i l else []) ++ (if x.kd = 4 then pairAll x i l l.length else [])) := by
  unfold routeB
  rw [List.take_length]
  unfold looksOf
  by_cases h4 : x.kd = 4
  · rw [if_pos h4, if_pos (by omega), if_pos (by omega), if_pos h4]; simp only [List.flatMap_cons, List.flatMap_nil, List.append_nil]; rfl
  · rw [if_neg h4, if_neg h4]
    by_cases h3 : x.kd = 3
    · rw [if_pos h3, if_pos (by omega), if_pos (by omega)]; simp only [List.flatMap_cons, List.flatMap_nil, List.append_nil]; rfl
    · rw [if_neg h3, if_neg (c := 3 ≤ x.kd ∧ x.kd ≤ 4) (by omega)]
      by_cases h2 : x.kd = 2
      · rw [if_pos h2, if_pos (by omega)]; simp only [List.flatMap_cons, List.flatMap_nil, List.append_nil]; rfl
      · rw [if_neg h2, if_neg (by omega)]; rfl
/-- What each one of them tells. -/
def Told (rs : List (List Int)) (w : Wrong) : Prop :=
  (w.f0 = 1 ∧ ∃ i : Nat, ∃ hi : i < rs.length, w.f1 = (i : Int) ∧ w.f2 ∈ rs[i]) ∨ (w.f0 = 2 ∧ w.f1 = 0 ∧ 1 < rs.flatten.count w.f2) ∨ (w.f0 = 3 ∧ w.f1 = 0 ∧ rs.flatten.count w.f2 = 0) ∨ (w.f0 = 4 ∧ w.f1 = 0) ∨
    (5 ≤ w.f0 ∧ w.f0 ≤ 8 ∧ ∃ i : Nat, ∃ hi : i < rs.length, w.f1 = (i : Int) ∧ (w.f2 ∈ rs[i] ∨ w.f0 = 6 ∧ w.f2 = 0))
theorem ok_good {kd mt sc cp fl : Int} {ns : List FeasWalk.Node} {mx : List Int} (g : Well11.Good kd mt sc cp fl ns mx) : okF mt ns.length mx.length = true :=
  decide_eq_true ⟨g.cnt.2, by have := g.cnt.1; omega, fun e => by rw [g.mxl.1 e]; exact Nat.le_refl _⟩
theorem few_long {rs : List (List Int)} (h1 : rs.length ≤ 300) (h2 : ∀ r ∈ rs, r.length ≤ 300) : fewF rs = true := by
  unfold fewF; simp only [Bool.and_eq_true, decide_eq_true_eq, List.all_eq_true]; exact ⟨h1, h2⟩
theorem check_some {nm : ByteArray} {kd mt sc cp fl : Int} {ns : List FeasWalk.Node} {mx : List Int} {rs : List (List Int)} (h1 : okF mt ns.length mx.length = true) (h2 : fewF rs = true) : feas_Check.f nm kd mt sc cp fl ns mx rs = some (wrongsOf (lk nm kd mt sc cp fl ns mx) rs) := by
  unfold feas_Check.f; rw [if_pos ⟨h1, h2⟩]
theorem feasible_some {nm : ByteArray} {kd mt sc cp fl : Int} {ns : List FeasWalk.Node} {mx : List Int} {rs : List (List Int)} (h1 : okF mt ns.length mx.length = true) (h2 : fewF rs = true) : feas_Feasible.f nm kd mt sc cp fl ns mx rs = some (wrongsOf (lk nm kd mt sc cp fl ns mx) rs).isEmpty := by
  unfold feas_Feasible.f; rw [if_pos ⟨h1, h2⟩]
end FeasP
end Go.Proofs.Ytlncbckpcmojpaa
set_option linter.unusedVariables false
namespace Go.Proofs.Ytlncbckpcmojpaa
open Go.RowKit Go.Proofs.YtlncbckpcmojpaaW.PrintWords Go.Proofs.YtlncbckpcmojpaaW.PrintLast
namespace FeasP
open P FeasWalk StopsWalk AllWalk
open Well11 (rdN)
/-- Alike but for capacity, fleet and the ends of windows. -/
structure Like (x y : Look) : Prop where
  kd : x.kd = y.kd
  u : unitOf x.mt = unitOf y.mt
  n : x.ns.length = y.ns.length
  some : 0 < x.ns.length
  leg : ∀ i j, i < x.ns.length → j < x.ns.length → legP x i j = legP y i j
  nod : ∀ i : Nat, i < x.ns.length → (rdN x.ns (i : Int)).f2 = (rdN y.ns (i : Int)).f2 ∧ (rdN x.ns (i : Int)).f3 = (rdN y.ns (i : Int)).f3 ∧ (rdN x.ns (i : Int)).f5 = (rdN y.ns (i : Int)).f5 ∧ (rdN x.ns (i : Int)).f6 = (rdN y.ns (i : Int)).f6
section
variable {x y : Look} (h : Like x y)
include h
end
end FeasP
end Go.Proofs.Ytlncbckpcmojpaa
