/- Plain lemmas of plans: the bound, what the references compute. -/
import Derived.Test.YtdjkhcmblekeiaaGCount
import Derived.Test.YtdjkhcmblekeiaaGFind
import Derived.Test.YtdjkhcmblekeiaaGSame
import Derived.Test.YtdjkhcmblekeiaaGInts
import Derived.Test.YtdjkhcmblekeiaaPxEntrepotlaw09long
import Derived.Test.YtdjkhcmblekeiaaPxEntrepotref09Find
import Derived.Test.YtdjkhcmblekeiaaPxEntrepotref09Count
namespace Go.Proofs.Ytdjkhcmblekeiaa
open Go.RowKit Go.Proofs.YtdjkhcmblekeiaaW.PrintWords StopsWalk AllWalk P
namespace PlanA

/-- Within the bound. -/
structure Fits (rs : List (List Int)) : Prop where
  routes : rs.length ≤ 410
  rows : ∀ i : Nat, i < rs.length → (rd_L1 rs (i : Int)).length ≤ 2100
  stops : (stopsOf rs).length ≤ 2100
theorem Fits.small {rs : List (List Int)} (h : Fits rs) : Small rs := ⟨by have := h.routes; omega, fun i hi => by have := h.rows i hi; omega⟩
theorem Fits.smallB {rs : List (List Int)} (h : Fits rs) : smallB rs = true := by
  simp only [StopsWalk.smallB, Bool.and_eq_true, decide_eq_true_eq, List.all_eq_true]
  refine ⟨by have := h.routes; omega, fun r hr => ?_⟩
  obtain ⟨i, hi, rfl⟩ := List.getElem_of_mem hr
  have := h.rows i hi
  rw [show rd_L1 rs (i : Int) = rs[i] by unfold rd_L1; simp [hi]] at this
  omega
theorem long_loop (rs : List (List Int)) (d : Nat) : ∀ (k i : Nat), i + d = rs.length → 2 * d + 2 < k → i ≤ 420 → (∀ j : Nat, j < i → (rd_L1 rs (j : Int)).length ≤ 2100) → (upTo rs i).length ≤ 2100 * i →
    ∃ b, entrepotlaw09_long.l0 k ((upTo rs i).length : Int) (i : Int) rs = some b ∧ (b = false → Fits rs) := by
  induction d with
  | zero =>
    intro k i hi hk h420 hr hu
    obtain ⟨k, rfl⟩ : ∃ m, k = m + 1 + 1 := ⟨k - 2, by omega⟩
    rw [entrepotlaw09_long.l0, if_neg (by omega), entrepotlaw09_long.j1, if_neg (by simp)]
    by_cases h1 : (rs.length : Int) > 410
    · rw [if_pos h1]; exact ⟨true, rfl, fun h => by cases h⟩
    · rw [if_neg h1]
      obtain rfl : i = rs.length := by omega
      exact ⟨_, rfl, fun h => ⟨by omega, hr, by have := of_decide_eq_false h; unfold stopsOf; omega⟩⟩
  | succ d ih =>
    intro k i hi hk h420 hr hu
    obtain ⟨k, rfl⟩ : ∃ m, k = m + 1 + 1 := ⟨k - 2, by omega⟩
    rw [entrepotlaw09_long.l0, if_pos (by omega), entrepotlaw09_long.j1]
    by_cases h4 : (i : Int) < 420
    · rw [decide_eq_true h4, if_pos rfl, if_pos (by omega), if_pos (by omega)]
      by_cases h5 : ((rd_L1 rs (i : Int)).length : Int) > 2100
      · rw [if_pos h5]; exact ⟨true, rfl, fun h => by cases h⟩
      · rw [if_neg h5]
        have e1 : wrap64 (((upTo rs i).length : Int) + ((rd_L1 rs (i : Int)).length : Int)) = ((upTo rs (i + 1)).length : Int) := by
          rw [upTo_succ, List.length_append, ofRoute_length]
          unfold wrap64; omega
        have e2 : wrap64 ((i : Int) + 1) = ((i + 1 : Nat) : Int) := by unfold wrap64; omega
        rw [e1, e2]
        refine ih k (i + 1) (by omega) (by omega) (by omega) (fun j hj => ?_) (by rw [upTo_succ, List.length_append, ofRoute_length]; omega)
        by_cases hji : j = i
        · subst hji; omega
        · exact hr j (by omega)
    · rw [decide_eq_false h4, if_neg (by simp)]
      rw [if_pos (by omega)]
      exact ⟨true, rfl, fun h => by cases h⟩
theorem long_tells (rs : List (List Int)) {k : Nat} (hk : 2 * rs.length + 2 < k) : ∃ b, entrepotlaw09_long.f k rs = some b ∧ (b = false → Fits rs) := by
  have := long_loop rs rs.length k 0 (by omega) hk (by omega) (fun j h => by omega) (by simp [upTo])
  simpa [entrepotlaw09_long.f, upTo] using this

/-- Of the stops from one on: the first that is s. -/
def hit (o : Option Stop) : Int × Int × Bool := match o with | some x => ((x.1.1 : Int), (x.1.2 : Int), true) | none => (0, 0, false)
theorem upto_drop {α : Type} (f : Nat → α) {j n : Nat} (h : j < n) : (upto f n).drop j = f j :: (upto f n).drop (j + 1) := by
  rw [List.drop_eq_getElem_cons (by rw [upto_length]; exact h)]
  simp [upto]
theorem upTo_drop (rs : List (List Int)) {i n : Nat} (h : i ≤ n) : ∃ t, upTo rs n = upTo rs i ++ t := by
  obtain ⟨t, ht⟩ := upTo_pre rs h
  exact ⟨t, ht.symm⟩
/-- The stops of routes i and beyond. -/
def from_ (rs : List (List Int)) (i : Nat) : List Stop := (List.range' i (rs.length - i)).flatMap (ofRoute rs)
theorem from_zero (rs : List (List Int)) : from_ rs 0 = stopsOf rs := by simp [from_, stopsOf, upTo, List.range_eq_range']
theorem from_succ (rs : List (List Int)) {i : Nat} (h : i < rs.length) : from_ rs i = ofRoute rs i ++ from_ rs (i + 1) := by
  unfold from_
  rw [show rs.length - i = (rs.length - (i + 1)) + 1 by omega, List.range'_succ]
  simp
theorem from_end (rs : List (List Int)) : from_ rs rs.length = [] := by simp [from_]
/-- The stops of one route, from place j on. -/
def rest (rs : List (List Int)) (i j : Nat) : List Stop := ((upto (inner (rd_L1 rs (i : Int))) (rd_L1 rs (i : Int)).length).drop j).map (tag i)
theorem rest_zero (rs : List (List Int)) (i : Nat) : rest rs i 0 = ofRoute rs i := by simp [rest, ofRoute]
theorem rest_succ (rs : List (List Int)) {i j : Nat} (h : j < (rd_L1 rs (i : Int)).length) : rest rs i j = ((i, j), rd (rd_L1 rs (i : Int)) (j : Int)) :: rest rs i (j + 1) := by
  unfold rest
  rw [upto_drop _ h]
  rfl
theorem rest_end (rs : List (List Int)) (i : Nat) : rest rs i (rd_L1 rs (i : Int)).length = [] := by
  unfold rest
  rw [List.drop_of_length_le (by rw [upto_length]; exact Nat.le_refl _)]
  rfl

theorem find_loops (B : Nat → Nat) (hB : ∀ d, B d + 65540 ≤ B (d + 1)) {rs : List (List Int)} (hz : Small rs) (s : Int) (d : Nat) : ∀ (k i : Nat), i + d = rs.length → B d < k →
    entrepotref09_Find.l0 k s (i : Int) rs = some (hit ((from_ rs i).find? (fun y => y.2 == s))) := by
  induction d with
  | zero =>
    intro k i hi hk
    obtain ⟨k, rfl⟩ : ∃ m, k = m + 1 := ⟨k - 1, by omega⟩
    obtain rfl : i = rs.length := by omega
    rw [entrepotref09_Find.l0, if_neg (by omega), from_end]
    rfl
  | succ d ih =>
    intro k i hi hk
    obtain ⟨k, rfl⟩ : ∃ m, k = m + 1 := ⟨k - 1, by omega⟩
    have hlt : i < rs.length := by omega
    have hrow := hz.2 i hlt
    have hlen := hz.1
    have hb := hB d
    rw [entrepotref09_Find.l0, if_pos (by omega), from_succ rs hlt, ← rest_zero]
    have inn : ∀ (e k j : Nat), j + e = (rd_L1 rs (i : Int)).length → B d + e + 1 < k →
        entrepotref09_Find.l1 k s (i : Int) (j : Int) rs = some (hit ((rest rs i j ++ from_ rs (i + 1)).find? (fun y => y.2 == s))) := by
      intro e
      induction e with
      | zero =>
        intro k j hj hk
        obtain ⟨k, rfl⟩ : ∃ m, k = m + 1 := ⟨k - 1, by omega⟩
        obtain rfl : j = (rd_L1 rs (i : Int)).length := by omega
        rw [entrepotref09_Find.l1, if_pos (by omega), if_pos (by omega), if_neg (by omega), rest_end, List.nil_append, wrap64_succ (by omega)]
        exact ih k (i + 1) (by omega) (by omega)
      | succ e ihe =>
        intro k j hj hk
        obtain ⟨k, rfl⟩ : ∃ m, k = m + 1 := ⟨k - 1, by omega⟩
        rw [entrepotref09_Find.l1, if_pos (by omega), if_pos (by omega), if_pos (by omega), if_pos (by omega), rest_succ rs (by omega), List.cons_append, List.find?_cons]
        by_cases hx : rd (rd_L1 rs (i : Int)) (j : Int) = s
        · rw [if_pos hx]
          simp only [hx, beq_self_eq_true]
          rfl
        · rw [if_neg hx, wrap64_succ (by omega), ihe k (j + 1) (by omega) (by omega)]
          rw [beq_eq_false_iff_ne.2 hx]
    exact inn (rd_L1 rs (i : Int)).length k 0 (by omega) (by omega)
theorem find_tells {rs : List (List Int)} (hz : Small rs) (s : Int) (B : Nat → Nat) (hB : ∀ d, B d + 65540 ≤ B (d + 1)) {k : Nat} (hk : B rs.length < k) : entrepotref09_Find.f k rs s = some (hit ((stopsOf rs).find? (fun y => y.2 == s))) := by
  have := find_loops B hB hz s rs.length k 0 (by omega) hk
  rw [from_zero] at this
  exact this

end PlanA
end Go.Proofs.Ytdjkhcmblekeiaa
