/- When nobody is missing and nobody comes twice: plain lemmas on lists. -/
import Derived.Test.YtlncbckpcmojpaaMkj
set_option linter.unusedVariables false
namespace Go.Proofs.Ytlncbckpcmojpaa
open Go.RowKit Go.Proofs.YtlncbckpcmojpaaW.PrintWords Go.Proofs.YtlncbckpcmojpaaW.PrintLast
namespace FeasP
open P FeasWalk StopsWalk AllWalk
def cnts (n : Nat) (l : List Int) : Nat := ((List.range n).map fun c : Nat => l.count (c : Int)).sum
theorem sum_add (n : Nat) (f g : Nat → Nat) : ((List.range n).map fun c => f c + g c).sum = ((List.range n).map f).sum + ((List.range n).map g).sum := by
  induction n with
  | zero => rfl
  | succ n ih => rw [List.range_succ, List.map_append, List.map_append, List.map_append, List.sum_append, List.sum_append, List.sum_append, ih]; simp; omega
theorem sum_one (n : Nat) (a : Nat) : ((List.range n).map fun c : Nat => if c = a then 1 else 0).sum = if a < n then 1 else 0 := by
  induction n with
  | zero => rfl
  | succ n ih =>
    rw [List.range_succ, List.map_append, List.sum_append, ih]
    by_cases h : n = a
    · subst h; simp
    · simp only [List.map_cons, List.map_nil, List.sum_cons, List.sum_nil, if_neg h]
      by_cases h2 : a < n
      · rw [if_pos h2, if_pos (by omega)]; rfl
      · rw [if_neg h2, if_neg (by omega)]; rfl
theorem sum_from (n lo : Nat) : ((List.range n).map fun c : Nat => if lo ≤ c then 1 else 0).sum = n - lo := by
  induction n with
  | zero => simp
  | succ n ih =>
    rw [List.range_succ, List.map_append, List.sum_append, ih]
    by_cases h : lo ≤ n
    · simp [h]; omega
    · simp [h]; omega
theorem sum_zero {n : Nat} {f : Nat → Nat} (h : ((List.range n).map f).sum = 0) : ∀ c, c < n → f c = 0 := by
  induction n with
  | zero => intro c hc; omega
  | succ n ih =>
    rw [List.range_succ, List.map_append, List.sum_append] at h
    simp only [List.map_cons, List.map_nil, List.sum_cons, List.sum_nil] at h
    intro c hc
    by_cases e : c = n
    · subst e; omega
    · exact ih (by omega) c (by omega)
theorem cnts_len (n : Nat) : ∀ l : List Int, (∀ s ∈ l, 0 ≤ s ∧ s < (n : Int)) → cnts n l = l.length
  | [], _ => by
    unfold cnts
    rw [show (fun c : Nat => ([] : List Int).count (c : Int)) = fun _ => 0 from rfl]
    induction n with
    | zero => rfl
    | succ n ih => rw [List.range_succ, List.map_append, List.sum_append, ih (fun s hs => by cases hs)]; rfl
  | a :: l, h => by
    have ha := h a List.mem_cons_self
    obtain ⟨m, rfl⟩ : ∃ m : Nat, a = (m : Int) := ⟨a.toNat, by omega⟩
    have e : (fun c : Nat => ((m : Int) :: l).count (c : Int)) = fun c : Nat => l.count (c : Int) + (if c = m then 1 else 0) := funext fun c => by
      rw [List.count_cons]
      by_cases h2 : c = m
      · subst h2; simp
      · rw [if_neg h2, if_neg (by simp; omega)]
    unfold cnts
    rw [e, sum_add, sum_one, if_pos (by omega), List.length_cons]
    have := cnts_len n l (fun s hs => h s (List.mem_cons_of_mem _ hs))
    unfold cnts at this
    omega
/-- Each customer is one stop. -/
structure Each (lo n : Nat) (l : List Int) : Prop where
  range : ∀ s ∈ l, (lo : Int) ≤ s ∧ s < (n : Int)
  nodup : l.Nodup
  len : l.length = n - lo
theorem each_count {lo n : Nat} {l : List Int} (h : Each lo n l) {c : Nat} (h1 : lo ≤ c) (h2 : c < n) : l.count (c : Int) = 1 := by
  have hs := cnts_len n l (fun s hs => by have := h.range s hs; omega)
  have hle : ∀ c : Nat, c < n → l.count (c : Int) ≤ (if lo ≤ c then 1 else 0) := fun c hc => by
    split
    · rw [h.nodup.count]; split <;> omega
    · rw [List.count_eq_zero_of_not_mem (fun hm => by have := (h.range _ hm).1; omega)]; omega
  have e : ((List.range n).map fun c : Nat => l.count (c : Int) + ((if lo ≤ c then 1 else 0) - l.count (c : Int))).sum = n - lo := by
    rw [← sum_from n lo]
    congr 1
    refine List.map_congr_left fun c hc => ?_
    have := hle c (List.mem_range.1 hc)
    omega
  rw [sum_add] at e
  have hl := h.len
  unfold cnts at hs
  have hz : ((List.range n).map fun c : Nat => (if lo ≤ c then 1 else 0) - l.count (c : Int)).sum = 0 := by omega
  have := sum_zero hz c h2
  rw [if_pos h1] at this
  have h3 := hle c h2
  rw [if_pos h1] at h3
  omega
theorem each_of {lo n : Nat} {l : List Int} (hr : ∀ s ∈ l, (lo : Int) ≤ s ∧ s < (n : Int)) (hc : ∀ c : Nat, lo ≤ c → c < n → l.count (c : Int) = 1) : Each lo n l := by
  refine ⟨hr, ?_, ?_⟩
  · unfold List.Nodup
    rw [← List.Nodup, List.nodup_iff_count]
    intro a
    by_cases ha : a ∈ l
    · have := hr a ha
      have h1 := hc a.toNat (by omega) (by omega)
      rw [show ((a.toNat : Nat) : Int) = a by omega] at h1
      omega
    · rw [List.count_eq_zero_of_not_mem ha]; omega
  · have hs := cnts_len n l (fun s hs => by have := hr s hs; omega)
    rw [← hs, ← sum_from n lo]
    unfold cnts
    congr 1
    refine List.map_congr_left fun c hcn => ?_
    have hcn := List.mem_range.1 hcn
    by_cases h : lo ≤ c
    · rw [if_pos h, hc c h hcn]
    · rw [if_neg h, List.count_eq_zero_of_not_mem (fun hm => by have := (hr _ hm).1; omega)]
def lo (kd : Int) : Nat := if kd = 1 then 0 else 1
theorem lo_least (kd : Int) : (lo kd : Int) = least kd := by unfold lo least; split <;> rfl
theorem bad_nil {x : Look} {rs : List (List Int)} : badAll x rs rs.length = [] ↔ ∀ s ∈ rs.flatten, (lo x.kd : Int) ≤ s ∧ s < (x.ns.length : Int) := by
  rw [lo_least]
  have hl : 0 ≤ least x.kd := by unfold least; split <;> omega
  unfold badAll
  rw [List.flatMap_eq_nil_iff]
  constructor
  · intro h s hs
    obtain ⟨r, hr, hsr⟩ := List.mem_flatten.1 hs
    obtain ⟨i, hi, rfl⟩ := List.getElem_of_mem hr
    have h1 := h i (List.mem_range.2 hi)
    unfold badTo at h1
    rw [Well11.rd1_at hi, List.map_eq_nil_iff, List.filter_eq_nil_iff] at h1
    have h2 := h1 s hsr
    unfold badB oddB at h2
    simp only [Bool.or_eq_true, decide_eq_true_eq, not_or] at h2
    omega
  · intro h i hi
    have hi := List.mem_range.1 hi
    unfold badTo
    rw [Well11.rd1_at hi, List.map_eq_nil_iff, List.filter_eq_nil_iff]
    intro s hs
    have := h s (List.mem_flatten.2 ⟨_, List.getElem_mem hi, hs⟩)
    unfold badB oddB
    simp only [Bool.or_eq_true, decide_eq_true_eq, not_or]
    omega
theorem cov_nil {x : Look} {rs : List (List Int)} : covAll x (counts x.ns.length (stopsOf rs)) x.ns.length = [] ↔ ∀ c : Nat, lo x.kd ≤ c → c < x.ns.length → rs.flatten.count (c : Int) = 1 := by
  have hl := lo_least x.kd
  unfold covAll
  rw [List.flatMap_eq_nil_iff]
  constructor
  · intro h c h1 h2
    have := h c (List.mem_range.2 h2)
    unfold covB at this
    rw [counts_at rs h2, if_neg (by omega)] at this
    split at this
    · cases this
    · split at this
      · cases this
      · omega
  · intro h c hc
    have hc := List.mem_range.1 hc
    unfold covB
    split
    · rfl
    · rw [counts_at rs hc, h c (by omega) hc]; rfl
theorem each_nil {x : Look} {rs : List (List Int)} : badAll x rs rs.length = [] ∧ covAll x (counts x.ns.length (stopsOf rs)) x.ns.length = [] ↔ Each (lo x.kd) x.ns.length rs.flatten := by
  rw [bad_nil, cov_nil]
  exact ⟨fun h => each_of h.1 h.2, fun h => ⟨h.range, fun c h1 h2 => each_count h h1 h2⟩⟩
/-- Of all stops no two are the same: each stands in one route. -/
theorem one_route {rs : List (List Int)} (h : rs.flatten.Nodup) {i j : Nat} (hi : i < rs.length) (hj : j < rs.length) {s : Int} (h1 : s ∈ rs[i]) (h2 : s ∈ rs[j]) : i = j := by
  have hp := (List.pairwise_flatten.1 h).2
  rcases Nat.lt_trichotomy i j with hlt | e | hlt
  · exact absurd rfl (List.pairwise_iff_getElem.1 hp i j hi hj hlt s h1 s h2)
  · exact e
  · exact absurd rfl (List.pairwise_iff_getElem.1 hp j i hj hi hlt s h2 s h1)
theorem row_nodup {rs : List (List Int)} (h : rs.flatten.Nodup) {i : Nat} (hi : i < rs.length) : rs[i].Nodup := (List.pairwise_flatten.1 h).1 _ (List.getElem_mem hi)
end FeasP
end Go.Proofs.Ytlncbckpcmojpaa
