/- Whatever the plan, the number and the stop, if the plan is within the bound: a stop that is found is counted and stands where it is found; counts together are the stops, if all are among the numbers. -/
import Derived.Test.YtdjkhcmblekeiaaPxEntrepotlaw09PlanCounts
import Derived.Test.YtdjkhcmblekeiaaGPlanE
import Derived.Test.YtdjkhcmblekeiaaGOpenPlan
namespace Go.Proofs.Ytdjkhcmblekeiaa.Pure
open Go.RowKit Go.Proofs.Ytdjkhcmblekeiaa.P Go.Proofs.YtdjkhcmblekeiaaW.PrintWords Go.Proofs.YtdjkhcmblekeiaaW.PrintLast StopsWalk AllWalk PlanA

theorem wf_u8 {n : Int} (h : Open.WfInt .u8 n) : 0 ≤ n ∧ n ≤ 255 := by
  have hmin : IntKind.u8.min = 0 := rfl
  have hmax : IntKind.u8.max = 255 := rfl
  unfold Open.WfInt at h
  simp only [Lit.wf, Bool.and_eq_true, decide_eq_true_eq] at h
  omega
theorem counts_shown (n s : Int) (rs : List (List Int)) : Ev (fun k => entrepotlaw09_PlanCounts.j0 k n s true rs) true :=
  Ev.step (fun _ => entrepotlaw09_PlanCounts.j0.eq_2 ..) (Ev.pos rfl (Ev.bind shown_ev (Ev.now _)))
theorem countP_le_of {l : List Stop} (n : Nat) : l.countP (inB n) ≤ l.length := List.countP_le_length
/-- The last test: what is found, counted, summed. -/
theorem counts_last {rs : List (List Int)} (hz : Fits rs) (n t : Nat) (h1 : 1 ≤ n) (h2 : n ≤ 255) (ht : t ≤ 255) :
    Ev (fun k => entrepotlaw09_PlanCounts.l1 k (n : Int) (t : Int) (counts n (stopsOf rs)) (((stopsOf rs).countP (inB n) : Nat) : Int) ((stopsOf rs).all (inB n)) (rs.length : Int) rs) true := by
  refine Ev.step (fun _ => entrepotlaw09_PlanCounts.l1.eq_2 ..) (Ev.neg (by omega) ?_)
  have hs : t % n < n := Nat.mod_lt _ h1
  rw [wrap64_id (a := (n : Int)) (by omega) (by omega), wrap64_id (a := (t : Int)) (by omega) (by omega), show Int.tmod (t : Int) (n : Int) = ((t % n : Nat) : Int) from rfl]
  generalize t % n = s at *
  have hst := hz.stops
  have hcl : (stopsOf rs).countP (inB n) ≤ (stopsOf rs).length := List.countP_le_length
  have e : rd (counts n (stopsOf rs)) (s : Int) = (((stopsOf rs).countP (fun x => x.2 == (s : Int)) : Nat) : Int) := by
    have h3 : s < (counts n (stopsOf rs)).length := by rw [counts_length]; exact hs
    have := counts_getD n (stopsOf rs) hs
    unfold rd
    rw [Int.toNat_natCast]; exact this
  refine Ev.neg (by omega) (Ev.bs (planFind_some hz (s : Int)) (Ev.pos (by omega) (Ev.pos (by rw [counts_length]; omega) ?_)))
  rw [e]
  have hfound : (hit ((stopsOf rs).find? (fun y => y.2 == (s : Int)))).2.2 = decide ((((stopsOf rs).countP (fun x => x.2 == (s : Int)) : Nat) : Int) > 0) := by
    cases hf : (stopsOf rs).find? (fun y => y.2 == (s : Int)) with
    | none =>
      have h0 : (stopsOf rs).countP (fun x => x.2 == (s : Int)) = 0 := List.countP_eq_zero.2 fun x hx => by have := List.find?_eq_none.1 hf x hx; simpa using this
      rw [h0]; rfl
    | some x =>
      have hm := List.mem_of_find?_eq_some hf
      have hp := List.find?_some hf
      have : 0 < (stopsOf rs).countP (fun x => x.2 == (s : Int)) := List.countP_pos_iff.2 ⟨x, hm, hp⟩
      rw [decide_eq_true (by omega)]; rfl
  refine Ev.neg (by rw [hfound]; simp) ?_
  have tail : Ev (fun _ : Nat => if (hit ((stopsOf rs).find? (fun y => y.2 == (s : Int)))).2.2 = true then (if (hit ((stopsOf rs).find? (fun y => y.2 == (s : Int)))).1 ≥ 0 then (if (hit ((stopsOf rs).find? (fun y => y.2 == (s : Int)))).1 < (rs.length : Int) then (if (hit ((stopsOf rs).find? (fun y => y.2 == (s : Int)))).2.1 ≥ 0 then (if 0 ≤ (hit ((stopsOf rs).find? (fun y => y.2 == (s : Int)))).1 then (if (hit ((stopsOf rs).find? (fun y => y.2 == (s : Int)))).2.1 < ((rd_L1 rs (hit ((stopsOf rs).find? (fun y => y.2 == (s : Int)))).1).length : Int) then (if 0 ≤ (hit ((stopsOf rs).find? (fun y => y.2 == (s : Int)))).2.1 then (some ((rd (rd_L1 rs (hit ((stopsOf rs).find? (fun y => y.2 == (s : Int)))).1) (hit ((stopsOf rs).find? (fun y => y.2 == (s : Int)))).2.1) == (s : Int))) else (none)) else (some false)) else (none)) else (some false)) else (some false)) else (some false)) else (some true)) true := by
    cases hf : (stopsOf rs).find? (fun y => y.2 == (s : Int)) with
    | none => exact Ev.neg (by simp [hit]) (Ev.now _)
    | some x =>
      obtain ⟨m1, m2, m3⟩ := mem_stops (List.mem_of_find?_eq_some hf)
      have hp : x.2 = (s : Int) := by have := List.find?_some hf; simpa using this
      simp only [hit]
      refine Ev.pos trivial (Ev.pos (by omega) (Ev.pos (by omega) (Ev.pos (by omega) (Ev.pos (by omega) (Ev.pos (by omega) (Ev.pos (by omega) (Ev.this ?_)))))))
      rw [m3, hp]; simp
  have many := many_ev hz.small
  by_cases hall : (stopsOf rs).all (inB n) = true
  · refine Ev.pos hall (Ev.bind many ?_)
    have he : (stopsOf rs).countP (inB n) = (stopsOf rs).length := List.countP_eq_length.2 fun x hx => List.all_eq_true.1 hall x hx
    exact Ev.pos (by rw [he]) (Ev.bind many (Ev.neg (by omega) tail))
  · exact Ev.neg hall (Ev.bind many (Ev.neg (by omega) tail))
/-- Are all stops among the numbers? -/
theorem counts_inner {rs : List (List Int)} (hz : Fits rs) (n t : Nat) (h2 : n ≤ 255) (c : List Int) (sum : Int) {i : Nat} (hlt : i < rs.length) {r : Bool}
    (next : ∀ b : Bool, Ev (fun k => entrepotlaw09_PlanCounts.l1 k (n : Int) (t : Int) c sum (b && (from_ rs (i + 1)).all (inB n)) (rs.length : Int) rs) r → Ev (fun k => entrepotlaw09_PlanCounts.l1 k (n : Int) (t : Int) c sum b ((i + 1 : Nat) : Int) rs) r) :
    ∀ (e j : Nat) (b : Bool), j + e = (rd_L1 rs (i : Int)).length → Ev (fun k => entrepotlaw09_PlanCounts.l1 k (n : Int) (t : Int) c sum (b && (rest rs i j ++ from_ rs (i + 1)).all (inB n)) (rs.length : Int) rs) r →
      Ev (fun k => entrepotlaw09_PlanCounts.l2 k (n : Int) (t : Int) c sum b (i : Int) (j : Int) rs) r := by
  have hrow := hz.rows i hlt
  have hlen := hz.routes
  intro e
  induction e with
  | zero =>
    intro j b hj h
    obtain rfl : j = (rd_L1 rs (i : Int)).length := by omega
    rw [rest_end, List.nil_append] at h
    refine Ev.step (fun _ => entrepotlaw09_PlanCounts.l2.eq_2 ..) (Ev.pos (by omega) (Ev.pos (by omega) (Ev.neg (by omega) ?_)))
    rw [wrap64_succ (by omega)]
    exact next b h
  | succ e ih =>
    intro j b hj h
    rw [rest_succ rs (by omega), List.cons_append, List.all_cons, ← Bool.and_assoc] at h
    refine Ev.step (fun _ => entrepotlaw09_PlanCounts.l2.eq_2 ..) (Ev.pos (by omega) (Ev.pos (by omega) (Ev.pos (by omega) ?_)))
    rw [wrap64_succ (i := j) (by omega), wrap64_id (a := (n : Int)) (by omega) (by omega)]
    have hi : inB n ((i, j), rd (rd_L1 rs (i : Int)) (j : Int)) = decide (0 ≤ rd (rd_L1 rs (i : Int)) (j : Int) ∧ rd (rd_L1 rs (i : Int)) (j : Int) < (n : Int)) := rfl
    rw [hi] at h
    cases b with
    | false => exact Ev.neg (by simp) (ih (j + 1) false (by omega) (by simpa using h))
    | true =>
      refine Ev.pos rfl (Ev.pos (by omega) ?_)
      rw [Bool.true_and] at h
      by_cases h0 : rd (rd_L1 rs (i : Int)) (j : Int) ≥ 0
      · refine Ev.pos h0 (ih (j + 1) _ (by omega) ?_)
        rwa [show decide (0 ≤ rd (rd_L1 rs (i : Int)) (j : Int) ∧ rd (rd_L1 rs (i : Int)) (j : Int) < (n : Int)) = decide (rd (rd_L1 rs (i : Int)) (j : Int) < (n : Int)) from decide_eq_decide.2 ⟨fun h => h.2, fun h => ⟨h0, h⟩⟩] at h
      · refine Ev.neg h0 (ih (j + 1) false (by omega) ?_)
        rwa [decide_eq_false (fun h => h0 h.1)] at h
theorem counts_outer {rs : List (List Int)} (hz : Fits rs) (n t : Nat) (h2 : n ≤ 255) (c : List Int) (sum : Int) {r : Bool} (d : Nat) : ∀ (i : Nat) (b : Bool), i + d = rs.length →
    Ev (fun k => entrepotlaw09_PlanCounts.l1 k (n : Int) (t : Int) c sum (b && (from_ rs i).all (inB n)) (rs.length : Int) rs) r → Ev (fun k => entrepotlaw09_PlanCounts.l1 k (n : Int) (t : Int) c sum b (i : Int) rs) r := by
  induction d with
  | zero =>
    intro i b hi h
    obtain rfl : i = rs.length := by omega
    rwa [from_end, List.all_nil, Bool.and_true] at h
  | succ d ih =>
    intro i b hi h
    have hlt : i < rs.length := by omega
    refine Ev.step (fun _ => entrepotlaw09_PlanCounts.l1.eq_2 ..) (Ev.pos (by omega) ?_)
    rw [from_succ rs hlt, ← rest_zero] at h
    exact counts_inner hz n t h2 c sum hlt (fun b => ih (i + 1) b (by omega)) (rd_L1 rs (i : Int)).length 0 b (by omega) h
theorem counts_sums {rs : List (List Int)} (hz : Fits rs) (n t : Nat) (h1 : 1 ≤ n) (h2 : n ≤ 255) (ht : t ≤ 255) (d : Nat) : ∀ (i : Nat), i + d = n →
    Ev (fun k => entrepotlaw09_PlanCounts.l0 k (n : Int) (t : Int) (counts n (stopsOf rs)) (((stopsOf rs).countP (inB i) : Nat) : Int) (i : Int) rs) true := by
  have hst := hz.stops
  have hlen : (counts n (stopsOf rs)).length = n := counts_length _ _
  induction d with
  | zero =>
    intro i hi
    obtain rfl : i = n := by omega
    refine Ev.step (fun _ => entrepotlaw09_PlanCounts.l0.eq_2 ..) (Ev.neg (by omega) ?_)
    refine counts_outer hz i t h2 _ _ rs.length 0 true (by omega) ?_
    rw [from_zero, Bool.true_and]
    exact counts_last hz i t h1 h2 ht
  | succ d ih =>
    intro i hi
    have hlt : i < n := by omega
    have e : rd (counts n (stopsOf rs)) (i : Int) = (((stopsOf rs).countP (fun x => x.2 == (i : Int)) : Nat) : Int) := by
      have := counts_getD n (stopsOf rs) hlt
      unfold rd
      rw [Int.toNat_natCast]; exact this
    have hs : (stopsOf rs).countP (inB (i + 1)) = (stopsOf rs).countP (inB i) + (stopsOf rs).countP (fun x => x.2 == (i : Int)) := by
      have a := counts_sum (i + 1) (stopsOf rs)
      have b := counts_sum i (stopsOf rs)
      rw [show counts (i + 1) (stopsOf rs) = counts i (stopsOf rs) ++ [(((stopsOf rs).countP (fun x => x.2 == (i : Int)) : Nat) : Int)] by simp [counts, List.range_succ], List.sum_append, b] at a
      simp only [List.sum_cons, List.sum_nil] at a
      omega
    have hcl : (stopsOf rs).countP (inB (i + 1)) ≤ (stopsOf rs).length := List.countP_le_length
    refine Ev.step (fun _ => entrepotlaw09_PlanCounts.l0.eq_2 ..) (Ev.pos (by omega) (Ev.pos (by omega) ?_))
    rw [e, wrap64_succ (by omega), wrap64_id (by omega) (by omega), ← Int.natCast_add, ← hs]
    exact ih (i + 1) (by omega)
theorem PlanCounts (rs : List (List Int)) (a s : Int) (_ : Open.PlanGood rs) (wa : Open.WfInt .u8 a) (ws : Open.WfInt .u8 s) : ∃ k, entrepotlaw09_PlanCounts.f k rs a s = some true := by
  refine Ev.rounds ?_
  unfold entrepotlaw09_PlanCounts.f
  obtain ⟨b, hb, hf⟩ := long_ev rs
  have ha := wf_u8 wa
  have hs := wf_u8 ws
  refine Ev.bind hb ?_
  cases b with
  | true => exact Ev.pos rfl (counts_shown a s rs)
  | false =>
    refine Ev.neg (by simp) ?_
    by_cases h0 : a = 0
    · exact Ev.pos h0 (counts_shown a s rs)
    · refine Ev.neg h0 (Ev.bind shown_ev (Ev.step (fun _ => entrepotlaw09_PlanCounts.j0.eq_2 ..) (Ev.neg (by simp) ?_)))
      have hz := hf rfl
      obtain ⟨n, rfl⟩ : ∃ n : Nat, a = (n : Int) := ⟨a.toNat, by omega⟩
      obtain ⟨t, rfl⟩ : ∃ n : Nat, s = (n : Int) := ⟨s.toNat, by omega⟩
      rw [wrap64_id (a := (n : Int)) (by omega) (by omega)]
      refine Ev.bs (planCount_some hz (n : Int)) ?_
      rw [if_neg (by omega), Int.toNat_natCast]
      refine Ev.pos (by rw [counts_length]) ?_
      have := counts_sums hz n t (by omega) (by omega) (by omega) n 0 (by omega)
      rwa [show (stopsOf rs).countP (inB 0) = 0 from List.countP_eq_zero.2 fun x _ => by unfold inB; simp <;> omega] at this
end Go.Proofs.Ytdjkhcmblekeiaa.Pure
