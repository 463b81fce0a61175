/- Plain lemmas of plans: what the reference counts. -/
import Derived.Test.YtdjkhcmblekeiaaGPlanA
import Derived.Test.YtdjkhcmblekeiaaGEv
namespace Go.Proofs.Ytdjkhcmblekeiaa
open Go.RowKit Go.Proofs.YtdjkhcmblekeiaaW.PrintWords StopsWalk AllWalk P
namespace PlanA
/-- One more is counted. -/
theorem tally (c : Int) (x : Stop) (l : List Stop) (m : Nat) (h : x.2 = c) : m + (x :: l).countP (fun y => y.2 == c) = m + 1 + l.countP (fun y => y.2 == c) := by
  rw [List.countP_cons_of_pos (by simpa using h)]; omega
theorem tally_not (c : Int) (x : Stop) (l : List Stop) (h : ¬ x.2 = c) : (x :: l).countP (fun y => y.2 == c) = l.countP (fun y => y.2 == c) :=
  List.countP_cons_of_neg (by simpa using h)
theorem count_inner {rs : List (List Int)} (hz : Small rs) (n c : Int) (xs : List Int) {r : List Int} {i : Nat} (hlt : i < rs.length)
    (next : ∀ m : Nat, m + (from_ rs (i + 1)).length ≤ 4294967296 → Ev (fun k => entrepotref09_Count.l0 k n (xs ++ [((m + (from_ rs (i + 1)).countP (fun y => y.2 == c) : Nat) : Int)]) (wrap64 (c + 1)) rs) r → Ev (fun k => entrepotref09_Count.l1 k n xs c (m : Int) ((i + 1 : Nat) : Int) rs) r) :
    ∀ (e j m : Nat), j + e = (rd_L1 rs (i : Int)).length → m + (rest rs i j ++ from_ rs (i + 1)).length ≤ 4294967296 →
      Ev (fun k => entrepotref09_Count.l0 k n (xs ++ [((m + (rest rs i j ++ from_ rs (i + 1)).countP (fun y => y.2 == c) : Nat) : Int)]) (wrap64 (c + 1)) rs) r → Ev (fun k => entrepotref09_Count.l2 k n xs c (m : Int) (i : Int) (j : Int) rs) r := by
  have hrow := hz.2 i hlt
  have hlen := hz.1
  intro e
  induction e with
  | zero =>
    intro j m hj hm h
    obtain rfl : j = (rd_L1 rs (i : Int)).length := by omega
    rw [rest_end, List.nil_append] at hm h
    refine Ev.step (fun _ => entrepotref09_Count.l2.eq_2 ..) ?_
    repeat (first | (with_reducible refine Ev.pos (by omega) ?_) | (with_reducible refine Ev.neg (by omega) ?_))
    rw [wrap64_succ (by omega)]
    exact next m hm h
  | succ e ih =>
    intro j m hj hm h
    rw [rest_succ rs (by omega), List.cons_append] at hm h
    rw [List.length_cons] at hm
    refine Ev.step (fun _ => entrepotref09_Count.l2.eq_2 ..) ?_
    refine Ev.pos (by omega) (Ev.pos (by omega) (Ev.pos (by omega) (Ev.pos (by omega) ?_)))
    rw [wrap64_succ (i := j) (by omega)]
    by_cases hx : rd (rd_L1 rs (i : Int)) (j : Int) = c
    · refine Ev.pos hx ?_
      rw [wrap64_succ (i := m) (by omega)]
      refine ih (j + 1) (m + 1) (by omega) (by omega) ?_
      rw [tally c _ _ m hx] at h
      exact h
    · refine Ev.neg hx ?_
      refine ih (j + 1) m (by omega) (by omega) ?_
      rw [tally_not c _ _ hx] at h
      exact h
theorem count_outer {rs : List (List Int)} (hz : Small rs) (n c : Int) (xs : List Int) (hx : xs.length ≤ 400) {r : List Int} (d : Nat) : ∀ (i m : Nat), i + d = rs.length → m + (from_ rs i).length ≤ 4294967296 →
    Ev (fun k => entrepotref09_Count.l0 k n (xs ++ [((m + (from_ rs i).countP (fun y => y.2 == c) : Nat) : Int)]) (wrap64 (c + 1)) rs) r → Ev (fun k => entrepotref09_Count.l1 k n xs c (m : Int) (i : Int) rs) r := by
  have hlen := hz.1
  induction d with
  | zero =>
    intro i m hi hm h
    obtain rfl : i = rs.length := by omega
    refine Ev.step (fun _ => entrepotref09_Count.l1.eq_2 ..) ?_
    repeat (first | (with_reducible refine Ev.pos (by omega) ?_) | (with_reducible refine Ev.neg (by omega) ?_))
    rw [from_end, List.countP_nil, Nat.add_zero] at h
    exact h
  | succ d ih =>
    intro i m hi hm h
    have hlt : i < rs.length := by omega
    refine Ev.step (fun _ => entrepotref09_Count.l1.eq_2 ..) ?_
    refine Ev.pos (by omega) ?_
    rw [from_succ rs hlt, ← rest_zero] at hm h
    exact count_inner hz n c xs hlt (fun m => ih (i + 1) m (by omega)) (rd_L1 rs (i : Int)).length 0 m (by omega) hm h
theorem count_all {rs : List (List Int)} (hz : Fits rs) (n : Nat) (hn : n ≤ 400) (d : Nat) : ∀ c : Nat, c + d = n → Ev (fun k => entrepotref09_Count.l0 k (n : Int) (counts c (stopsOf rs)) (c : Int) rs) (counts n (stopsOf rs)) := by
  have hst := hz.stops
  induction d with
  | zero =>
    intro c hc
    obtain rfl : c = n := by omega
    refine Ev.step (fun _ => entrepotref09_Count.l0.eq_2 ..) ?_
    exact Ev.neg (by omega) (Ev.now _)
  | succ d ih =>
    intro c hc
    refine Ev.step (fun _ => entrepotref09_Count.l0.eq_2 ..) ?_
    refine Ev.pos (by omega) ?_
    refine count_outer hz.small (n : Int) (c : Int) _ (by rw [counts_length]; omega) rs.length 0 0 (by omega) (by rw [from_zero]; omega) ?_
    rw [from_zero, Nat.zero_add, wrap64_succ (by omega), show counts c (stopsOf rs) ++ [(((stopsOf rs).countP (fun y => y.2 == (c : Int)) : Nat) : Int)] = counts (c + 1) (stopsOf rs) by simp [counts, List.range_succ]]
    exact ih (c + 1) (by omega)
/-- What the reference counts. -/
theorem refCount_tells {rs : List (List Int)} (hz : Fits rs) (n : Int) : Ev (fun k => entrepotref09_Count.f k rs n) (if n < 1 ∨ 400 < n then [] else counts n.toNat (stopsOf rs)) := by
  unfold entrepotref09_Count.f
  refine Ev.bs rfl ?_
  by_cases h1 : n < 1
  · refine Ev.pos h1 (Ev.step (fun _ => entrepotref09_Count.j0.eq_2 ..) (Ev.pos rfl ?_))
    rw [if_pos (.inl h1)]; exact Ev.now _
  · refine Ev.neg h1 (Ev.step (fun _ => entrepotref09_Count.j0.eq_2 ..) ?_)
    by_cases h2 : 400 < n
    · refine Ev.pos (decide_eq_true h2) ?_
      rw [if_pos (.inr h2)]; exact Ev.now _
    · refine Ev.neg (by simpa using h2) ?_
      rw [if_neg (by omega)]
      obtain ⟨m, rfl⟩ : ∃ m : Nat, n = (m : Int) := ⟨n.toNat, by omega⟩
      rw [Int.toNat_natCast]
      exact count_all hz m (by omega) m 0 (by omega)
end PlanA
end Go.Proofs.Ytdjkhcmblekeiaa
