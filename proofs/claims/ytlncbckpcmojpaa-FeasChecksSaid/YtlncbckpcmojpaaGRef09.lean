/- What the reference counts in a plan, and its routes that are not empty. Plain lemmas. -/
import Derived.Test.YtlncbckpcmojpaaMkc
import Derived.Test.YtlncbckpcmojpaaMka
import Derived.Test.YtlncbckpcmojpaaPxEntrepotref09Count
import Derived.Test.YtlncbckpcmojpaaPxEntrepotref09Norm
set_option linter.unusedVariables false
namespace Go.Proofs.Ytlncbckpcmojpaa
open Go.RowKit Go.Proofs.YtlncbckpcmojpaaW.PrintWords StopsWalk AllWalk P
namespace PlanA
theorem wrap64_succ {i : Nat} (h : i < 9223372036854775807) : wrap64 ((i : Int) + 1) = ((i + 1 : Nat) : Int) := by unfold wrap64; omega
/-- Within the bound. -/
structure Fits (rs : List (List Int)) : Prop where
 routes : rs.length ≤ 410
 rows : ∀ i : Nat, i < rs.length → (rd_L1 rs (i : Int)).length ≤ 2100
 stops : (stopsOf rs).length ≤ 2100
theorem Fits.small {rs : List (List Int)} (h : Fits rs) : Small rs := ⟨by have := h.routes; omega, fun i hi => by have := h.rows i hi; omega⟩
theorem upto_drop {α : Type} (f : Nat → α) {j n : Nat} (h : j < n) : (upto f n).drop j = f j :: (upto f n).drop (j + 1) := by
 rw [List.drop_eq_getElem_cons (by rw [upto_length]; exact h)]
 simp [upto]
/-- The stops of routes i and beyond. -/
def from_ (rs : List (List Int)) (i : Nat) : List Stop := (List.range' i (rs.length - i)).flatMap (ofRoute rs)
theorem from_zero (rs : List (List Int)) : from_ rs 0 = stopsOf rs := by simp [from_, stopsOf, upTo, List.range_eq_range']
theorem from_succ (rs : List (List Int)) {i : Nat} (h : i < rs.length) : from_ rs i = ofRoute rs i ++ from_ rs (i + 1) := by
 unfold from_
 rw [show rs.length - i = (rs.length - (i + 1)) + 1 by omega, List.range'_succ]
 simp
theorem from_end (rs : List (List Int)) : from_ rs rs.length = [] := by simp [from_]
/-- The stops of one route, from place j on. -/
def rest (rs : List (List Int)) (i j : Nat) : List Stop := ((upto (inner (rd_L1 rs (i : Int))) (rd_L1 rs (i : Int)).length).drop j).map (tag i)
theorem rest_zero (rs : List (List Int)) (i : Nat) : rest rs i 0 = ofRoute rs i := by simp [rest, ofRoute]
theorem rest_succ (rs : List (List Int)) {i j : Nat} (h : j < (rd_L1 rs (i : Int)).length) : rest rs i j = ((i, j), rd (rd_L1 rs (i : Int)) (j : Int)) :: rest rs i (j + 1) := by
 unfold rest
 rw [upto_drop _ h]
 rfl
theorem rest_end (rs : List (List Int)) (i : Nat) : rest rs i (rd_L1 rs (i : Int)).length = [] := by
 unfold rest
 rw [List.drop_of_length_le (by rw [upto_length]; exact Nat.le_refl _)]
 rfl

/-- One more is counted. -/
theorem tally (c : Int) (x : Stop) (l : List Stop) (m : Nat) (h : x.2 = c) : m + (x :: l).countP (fun y => y.2 == c) = m + 1 + l.countP (fun y => y.2 == c) := by
 rw [List.countP_cons_of_pos (by simpa using h)]; omega
theorem tally_not (c : Int) (x : Stop) (l : List Stop) (h : ¬ x.2 = c) : (x :: l).countP (fun y => y.2 == c) = l.countP (fun y => y.2 == c) :=
 List.countP_cons_of_neg (by simpa using h)
theorem count_inner {rs : List (List Int)} (hz : Small rs) (n c : Int) (xs : List Int) {r : List Int} {i : Nat} (hlt : i < rs.length)
  (next : ∀ m : Nat, m + (from_ rs (i + 1)).length ≤ 4294967296 → Ev (fun k => entrepotref09_Count.l0 k n (xs ++ [((m + (from_ rs (i + 1)).countP (fun y => y.2 == c) : Nat) : Int)]) (wrap64 (c + 1)) rs) r → Ev (fun k => entrepotref09_Count.l1 k n xs c (m : Int) ((i + 1 : Nat) : Int) rs) r) :
  ∀ (e j m : Nat), j + e = (rd_L1 rs (i : Int)).length → m + (rest rs i j ++ from_ rs (i + 1)).length ≤ 4294967296 →
   Ev (fun k => entrepotref09_Count.l0 k n (xs ++ [((m + (rest rs i j ++ from_ rs (i + 1)).countP (fun y => y.2 == c) : Nat) : Int)]) (wrap64 (c + 1)) rs) r → Ev (fun k => entrepotref09_Count.l2 k n xs c (m : Int) (i : Int) (j : Int) rs) r := by
 have hrow := hz.2 i hlt
 have hlen := hz.1
 intro e
 induction e with
 | zero =>
  intro j m hj hm h
  obtain rfl : j = (rd_L1 rs (i : Int)).length := by omega
  rw [rest_end, List.nil_append] at hm h
  refine Ev.step (fun _ => entrepotref09_Count.l2.eq_2 ..) ?_
  repeat (first | (with_reducible refine Ev.pos (by omega) ?_) | (with_reducible refine Ev.neg (by omega) ?_))
  rw [wrap64_succ (by omega)]
  exact next m hm h
 | succ e ih =>
  intro j m hj hm h
  rw [rest_succ rs (by omega), List.cons_append] at hm h
  rw [List.length_cons] at hm
  refine Ev.step (fun _ => entrepotref09_Count.l2.eq_2 ..) ?_
  refine Ev.pos (by omega) (Ev.pos (by omega) (Ev.pos (by omega) (Ev.pos (by omega) ?_)))
  rw [wrap64_succ (i := j) (by omega)]
  by_cases hx : rd (rd_L1 rs (i : Int)) (j : Int) = c
  ·refine Ev.pos hx ?_
   rw [wrap64_succ (i := m) (by omega)]
   refine ih (j + 1) (m + 1) (by omega) (by omega) ?_
   rw [tally c _ _ m hx] at h
   exact h
  ·refine Ev.neg hx ?_
   refine ih (j + 1) m (by omega) (by omega) ?_
   rw [tally_not c _ _ hx] at h
   exact h
theorem count_outer {rs : List (List Int)} (hz : Small rs) (n c : Int) (xs : List Int) (hx : xs.length ≤ 400) {r : List Int} (d : Nat) : ∀ (i m : Nat), i + d = rs.length → m + (from_ rs i).length ≤ 4294967296 →
  Ev (fun k => entrepotref09_Count.l0 k n (xs ++ [((m + (from_ rs i).countP (fun y => y.2 == c) : Nat) : Int)]) (wrap64 (c + 1)) rs) r → Ev (fun k => entrepotref09_Count.l1 k n xs c (m : Int) (i : Int) rs) r := by
 have hlen := hz.1
 induction d with
 | zero =>
  intro i m hi hm h
  obtain rfl : i = rs.length := by omega
  refine Ev.step (fun _ => entrepotref09_Count.l1.eq_2 ..) ?_
  repeat (first | (with_reducible refine Ev.pos (by omega) ?_) | (with_reducible refine Ev.neg (by omega) ?_))
  rw [from_end, List.countP_nil, Nat.add_zero] at h
  exact h
 | succ d ih =>
  intro i m hi hm h
  have hlt : i < rs.length := by omega
  refine Ev.step (fun _ => entrepotref09_Count.l1.eq_2 ..) ?_
  refine Ev.pos (by omega) ?_
  rw [from_succ rs hlt, ← rest_zero] at hm h
  exact count_inner hz n c xs hlt (fun m => ih (i + 1) m (by omega)) (rd_L1 rs (i : Int)).length 0 m (by omega) hm h
theorem count_all {rs : List (List Int)} (hz : Fits rs) (n : Nat) (hn : n ≤ 400) (d : Nat) : ∀ c : Nat, c + d = n → Ev (fun k => entrepotref09_Count.l0 k (n : Int) (counts c (stopsOf rs)) (c : Int) rs) (counts n (stopsOf rs)) := by
 have hst := hz.stops
 induction d with
 | zero =>
  intro c hc
  obtain rfl : c = n := by omega
  refine Ev.step (fun _ => entrepotref09_Count.l0.eq_2 ..) ?_
  exact Ev.neg (by omega) (Ev.now _)
 | succ d ih =>
  intro c hc
  refine Ev.step (fun _ => entrepotref09_Count.l0.eq_2 ..) ?_
  refine Ev.pos (by omega) ?_
  refine count_outer hz.small (n : Int) (c : Int) _ (by rw [counts_length]; omega) rs.length 0 0 (by omega) (by rw [from_zero]; omega) ?_
  rw [from_zero, Nat.zero_add, wrap64_succ (by omega), show counts c (stopsOf rs) ++ [(((stopsOf rs).countP (fun y => y.2 == (c : Int)) : Nat) : Int)] = counts (c + 1) (stopsOf rs) by simp [counts, List.range_succ]]
  exact ih (c + 1) (by omega)
/-- What the reference counts. -/
theorem refCount_tells {rs : List (List Int)} (hz : Fits rs) (n : Int) : Ev (fun k => entrepotref09_Count.f k rs n) (if n < 1 ∨ 400 < n then [] else counts n.toNat (stopsOf rs)) := by
 unfold entrepotref09_Count.f
 refine Ev.bs rfl ?_
 by_cases h1 : n < 1
 ·refine Ev.pos h1 (Ev.step (fun _ => entrepotref09_Count.j0.eq_2 ..) (Ev.pos rfl ?_))
  rw [if_pos (.inl h1)]; exact Ev.now _
 ·refine Ev.neg h1 (Ev.step (fun _ => entrepotref09_Count.j0.eq_2 ..) ?_)
  by_cases h2 : 400 < n
  ·refine Ev.pos (decide_eq_true h2) ?_
   rw [if_pos (.inr h2)]; exact Ev.now _
  ·refine Ev.neg (by simpa using h2) ?_
   rw [if_neg (by omega)]
   obtain ⟨m, rfl⟩ : ∃ m : Nat, n = (m : Int) := ⟨n.toNat, by omega⟩
   rw [Int.toNat_natCast]
   exact count_all hz m (by omega) m 0 (by omega)
theorem rdL_at {rs : List (List Int)} {i : Nat} (h : i < rs.length) : rd_L1 rs (i : Int) = rs[i] := by unfold rd_L1; simp [h]
/-- Routes that are not empty. -/
def fullB (r : List Int) : Bool := decide (0 < r.length)
def full (rs : List (List Int)) : List (List Int) := rs.filter fullB
theorem Fits.row {rs : List (List Int)} (hz : Fits rs) {i : Nat} (h : i < rs.length) : rs[i].length ≤ 2100 := by have := hz.rows i h; rwa [rdL_at h] at this
theorem full_from {rs : List (List Int)} {i : Nat} (h : i < rs.length) : full (rs.drop i) = (if 0 < rs[i].length then [rs[i]] else []) ++ full (rs.drop (i + 1)) := by
 unfold full
 rw [List.drop_eq_getElem_cons h, List.filter_cons]
 unfold fullB
 by_cases hc : 0 < rs[i].length <;> simp [hc]
theorem refNorm_from {rs : List (List Int)} (hz : Fits rs) (d : Nat) : ∀ (i : Nat) (acc : List (List Int)), i + d = rs.length → acc.length ≤ i → Ev (fun k => entrepotref09_Norm.l0 k (i : Int) rs acc) (acc ++ full (rs.drop i)) := by
 have hl := hz.routes
 induction d with
 | zero =>
  intro i acc hi ha
  refine Ev.step (fun _ => entrepotref09_Norm.l0.eq_2 ..) (Ev.neg (by omega) ?_)
  rw [List.drop_of_length_le (by omega)]
  exact Ev.this (by simp [full])
 | succ d ih =>
  intro i acc hi ha
  have hlt : i < rs.length := by omega
  have hr := hz.row hlt
  refine Ev.step (fun _ => entrepotref09_Norm.l0.eq_2 ..) (Ev.pos (by omega) (Ev.pos (by omega) ?_))
  rw [rdL_at hlt, wrap64_succ (by omega), full_from hlt]
  by_cases hc : 0 < rs[i].length
  ·refine Ev.pos (by omega) ?_
   rw [if_pos hc]
   refine Ev.bs rfl (Ev.pos (by simp; omega) (Ev.pos (by omega) ?_))
   rw [← List.append_assoc, List.nil_append]
   exact ih (i + 1) _ (by omega) (by simp; omega)
  ·refine Ev.neg (by omega) ?_
   rw [if_neg hc, List.nil_append]
   exact ih (i + 1) acc (by omega) (by omega)
theorem refNorm_ev {rs : List (List Int)} (hz : Fits rs) : Ev (fun k => entrepotref09_Norm.f k rs) (full rs) := refNorm_from hz rs.length 0 [] (by omega) (by simp)
end PlanA
end Go.Proofs.Ytlncbckpcmojpaa
