/- layout.Unpack, and the reference's answers: what they compute. Plain lemmas. -/
import Derived.Test.YtdgdhmglcpkkiaaDoorGLayF
import Derived.Test.YtdgdhmglcpkkiaaDoorMlb
import Derived.Test.YtdgdhmglcpkkiaaDoorMla
import Derived.Test.YtdgdhmglcpkkiaaDoorPxEntrepotref07Unpack
set_option linter.unusedVariables false
set_option linter.unusedSimpArgs false
namespace Go.Proofs.YtdgdhmglcpkkiaaDoor
open Go.RowKit
namespace LayWalk
open Go.RowKit Go.Proofs.YtdgdhmglcpkkiaaDoorW.PrintWords Go.Proofs.YtdgdhmglcpkkiaaDoorW.PrintLast Go.Proofs.YtdgdhmglcpkkiaaDoorW.PrintMore P KeyWalk
theorem wn {x y : Nat} (h : x + y ≤ 8000000) : wrap64 ((x : Int) + (y : Int)) = ((x + y : Nat) : Int) := by unfold wrap64; omega
theorem wn1 {x : Nat} (h : x ≤ 8000000) : wrap64 ((x : Int) + 1) = ((x + 1 : Nat) : Int) := by unfold wrap64; omega
theorem sq_w {n : Nat} (hn : n ≤ 400) : wrap64 ((n : Int) * (n : Int)) = ((n * n : Nat) : Int) := by
  have := mul_b hn hn
  rw [wid (by omega) (by omega), Int.natCast_mul]
/-- What both answer of Unpack. -/
def unpackV (a0 a1 : Int) (l : List Int) : List Int × Int :=
  if mayB a0 a1 = true then (if l.length = cnt a0.toNat a1.toNat then (unp a0.toNat a1.toNat l, 0) else ([], 70)) else ([], 1)
/-- The first t numbers of the matrix. -/
def part (lay n : Nat) (l : List Int) (t : Nat) : List Int := (List.range (n * n)).map fun s => if s < t then pick l (cnt lay n) (idx lay n (s / n) (s % n)) else 0
theorem part_length (lay n : Nat) (l : List Int) (t : Nat) : (part lay n l t).length = n * n := by unfold part; simp
theorem part_at {lay n : Nat} (l : List Int) (t : Nat) {s : Nat} (h : s < (part lay n l t).length) : (part lay n l t)[s] = if s < t then pick l (cnt lay n) (idx lay n (s / n) (s % n)) else 0 := by simp [part]
theorem part_zero (lay n : Nat) (l : List Int) : part lay n l 0 = List.replicate (n * n) 0 := by
  apply List.ext_getElem
  · rw [part_length]; simp
  · intro k h1 h2
    rw [part_at, List.getElem_replicate, if_neg (by omega)]
theorem part_end (lay n : Nat) (l : List Int) : part lay n l (n * n) = unp lay n l := by
  unfold part unp unpk
  apply List.map_congr_left
  intro s hs
  rw [List.mem_range] at hs
  rw [if_pos hs]
theorem part_set {lay n i j : Nat} (l : List Int) (hi : i < n) (hj : j < n) : (part lay n l (i * n + j)).set (i * n + j) (pick l (cnt lay n) (idx lay n i j)) = part lay n l (i * n + (j + 1)) := by
  have hc := cell_lt hi hj
  obtain ⟨e1, e2⟩ := cell_div (i := i) hj
  apply List.ext_getElem
  · rw [List.length_set, part_length, part_length]
  · intro s h1 h2
    rw [List.getElem_set, part_at, part_at]
    by_cases e : i * n + j = s
    · subst e
      rw [if_pos rfl, if_pos (by omega), e1, e2]
    · rw [if_neg e]
      by_cases h : s < i * n + j
      · rw [if_pos h, if_pos (by omega)]
      · rw [if_neg h, if_neg (by omega)]
theorem part_skip {lay n i j : Nat} (l : List Int) (hi : i < n) (hj : j < n) (h : ¬ idx lay n i j ≥ 0) : part lay n l (i * n + j) = part lay n l (i * n + (j + 1)) := by
  rw [← part_set l hi hj]
  have e : pick l (cnt lay n) (idx lay n i j) = 0 := by unfold pick; rw [if_neg (by omega)]
  rw [e]
  apply List.ext_getElem
  · rw [List.length_set]
  · intro s h1 h2
    rw [List.getElem_set]
    by_cases e : i * n + j = s
    · subst e
      rw [if_pos rfl, part_at, if_neg (by omega)]
    · rw [if_neg e]
theorem unpack_row {lay n : Nat} (hl : 1 ≤ lay ∧ lay ≤ 7) (hn : 1 ≤ n ∧ n ≤ 400) {l : List Int} (hm : l.length = cnt lay n) {i : Nat} (hi : i < n) {R : List Int × Int}
    (ih : Ev (fun k => layout_Unpack.l0 k (lay : Int) (n : Int) l (part lay n l ((i + 1) * n)) (n : Int) ((i + 1 : Nat) : Int)) R) (d : Nat) : ∀ j : Nat, j + d = n →
    Ev (fun k => layout_Unpack.l1 k (lay : Int) (n : Int) l (part lay n l (i * n + j)) (i : Int) (n : Int) (i : Int) (n : Int) (j : Int)) R := by
  induction d with
  | zero =>
    intro j hj
    refine Ev.step (fun _ => layout_Unpack.l1.eq_2 ..) (Ev.neg (by omega) ?_)
    rw [nat_succ (by omega)]
    obtain rfl : j = n := by omega
    rw [Nat.succ_mul] at ih
    exact ih
  | succ d ihd =>
    intro j hj
    have hjn : j < n := by omega
    have hb := idx_lt hl hi hjn
    have hc := cell_lt hi hjn
    refine Ev.step (fun _ => layout_Unpack.l1.eq_2 ..) (Ev.pos (by omega) (Ev.bind (index_ev hl hn hi hjn) ?_))
    by_cases h0 : idx lay n i j ≥ 0
    · refine Ev.pos h0 (Ev.pos (by omega) (Ev.pos (by omega) ?_))
      rw [cell_w (by omega) hn.2 (by omega), nat_succ (by omega)]
      refine Ev.pos (by omega) (Ev.pos (by rw [part_length]; omega) ?_)
      have hv : rd l (idx lay n i j) = pick l (cnt lay n) (idx lay n i j) := by unfold rd pick; rw [if_pos (by omega)]
      rw [hv, Int.toNat_natCast, part_set l hi hjn]
      exact ihd (j + 1) (by omega)
    · refine Ev.neg h0 ?_
      rw [nat_succ (by omega), part_skip l hi hjn h0]
      exact ihd (j + 1) (by omega)
theorem unpack_from {lay n : Nat} (hl : 1 ≤ lay ∧ lay ≤ 7) (hn : 1 ≤ n ∧ n ≤ 400) {l : List Int} (hm : l.length = cnt lay n) (d : Nat) : ∀ i : Nat, i + d = n →
    Ev (fun k => layout_Unpack.l0 k (lay : Int) (n : Int) l (part lay n l (i * n)) (n : Int) (i : Int)) (unp lay n l, 0) := by
  induction d with
  | zero =>
    intro i hi
    obtain rfl : i = n := by omega
    refine Ev.step (fun _ => layout_Unpack.l0.eq_2 ..) (Ev.neg (by omega) ?_)
    rw [part_end]; exact Ev.now _
  | succ d ih =>
    intro i hi
    refine Ev.step (fun _ => layout_Unpack.l0.eq_2 ..) (Ev.pos (by omega) ?_)
    exact unpack_row hl hn hm (show i < n by omega) (ih (i + 1) (by omega)) n 0 (by omega)
theorem unpack_ev (a0 a1 : Int) (l : List Int) : Ev (fun k => layout_Unpack.f k a0 a1 l) (unpackV a0 a1 l) := by
  unfold layout_Unpack.f unpackV
  refine Ev.bs (may_eq a0 a1) ?_
  by_cases hm : mayB a0 a1 = true
  · obtain ⟨lay, n, rfl, rfl, hl, hn⟩ := may_nat hm
    rw [if_pos hm, Int.toNat_natCast, Int.toNat_natCast]
    refine Ev.pos hm (Ev.bs (count_eq hl hn) ?_)
    by_cases h1 : l.length = cnt lay n
    · rw [if_pos h1]
      have hb := mul_b hn.2 hn.2
      refine Ev.pos (by omega) ?_
      rw [sq_w hn.2, Int.toNat_natCast]
      rw [← Int.natCast_mul] at hb
      refine Ev.pos (by omega) (Ev.pos (by omega) ?_)
      rw [← part_zero lay n l]
      have := unpack_from hl hn h1 n 0 (by omega)
      rw [Nat.zero_mul] at this
      exact this
    · rw [if_neg h1]
      exact Ev.neg (by omega) (Ev.now _)
  · rw [if_neg hm]
    exact Ev.neg hm (Ev.now _)
/-- Does the reference tell a place? -/
def tl (lay i j : Nat) : Bool := if lay = 2 ∨ lay = 6 then decide (i < j) else if lay = 3 ∨ lay = 7 then decide (j < i) else if lay = 4 then decide (i ≤ j) else if lay = 5 then decide (j ≤ i) else true
theorem tells_ev {lay : Nat} (hl : 1 ≤ lay ∧ lay ≤ 7) (i j : Nat) : Ev (fun k => entrepotref07_tells.f k (lay : Int) (i : Int) (j : Int)) (tl lay i j) := by
  refine ⟨2, fun k hk => ?_⟩
  obtain ⟨k, rfl⟩ : ∃ m, k = m + 2 := ⟨k - 2, by omega⟩
  have hc : lay = 1 ∨ lay = 2 ∨ lay = 3 ∨ lay = 4 ∨ lay = 5 ∨ lay = 6 ∨ lay = 7 := by omega
  rcases hc with rfl | rfl | rfl | rfl | rfl | rfl | rfl <;> simp [entrepotref07_tells.f, entrepotref07_tells.j0, entrepotref07_tells.j1, tl]
theorem tl_tag {lay n a b : Nat} (hl : 1 ≤ lay ∧ lay ≤ 7) (ha : a < n) (hb : b < n) : tl lay (tagp lay a b).1 (tagp lay a b).2 = decide (frm lay a ≤ b ∧ b < til lay n a) := by
  have hc : lay = 1 ∨ lay = 2 ∨ lay = 3 ∨ lay = 4 ∨ lay = 5 ∨ lay = 6 ∨ lay = 7 := by omega
  rw [Bool.eq_iff_iff]
  rcases hc with rfl | rfl | rfl | rfl | rfl | rfl | rfl <;> simp only [tl, tagp, frm, til] <;> simp <;> omega
theorem tl_dia {lay n i : Nat} (hl : 1 ≤ lay ∧ lay ≤ 7) (hi : i < n) : idx lay n i i < 0 ↔ tl lay i i = false := by
  have h4 : tri i ≤ i * n := tri_le (by omega)
  have h4' : (tri i : Int) ≤ (i : Int) * (n : Int) := by rw [← Int.natCast_mul]; omega
  have h1 : (0 : Int) ≤ (i : Int) * (n : Int) := Int.mul_nonneg (by omega) (by omega)
  have hc : lay = 1 ∨ lay = 2 ∨ lay = 3 ∨ lay = 4 ∨ lay = 5 ∨ lay = 6 ∨ lay = 7 := by omega
  rcases hc with rfl | rfl | rfl | rfl | rfl | rfl | rfl <;> simp [idx, tl] <;> omega
/-- How many of a row's first c numbers are told. -/
def few (lay n a c : Nat) : Nat := min c (til lay n a) - frm lay a
theorem few_step {lay n a c : Nat} (h : frm lay a ≤ c ∧ c < til lay n a) : few lay n a (c + 1) = few lay n a c + 1 := by unfold few; omega
theorem few_skip {lay n a c : Nat} (h : ¬ (frm lay a ≤ c ∧ c < til lay n a)) : few lay n a (c + 1) = few lay n a c := by unfold few; omega
theorem few_le {lay n a c : Nat} : few lay n a c ≤ c := by unfold few; omega
theorem few_zero (lay n a : Nat) : few lay n a 0 = 0 := by unfold few; omega
theorem few_end {lay n a : Nat} (ha : a < n) : few lay n a n = til lay n a - frm lay a := by
  have := frm_le (lay := lay) ha
  unfold few; omega
theorem kOf_few (lay n a b : Nat) : kOf lay n a b = ahead lay n a + few lay n a b := rfl
theorem tag_lo {lay : Nat} (h : lay < 6) (a b : Nat) : tagp lay a b = (a, b) := by unfold tagp; rw [if_neg (by omega)]
theorem tag_hi {lay : Nat} (h : 6 ≤ lay) (a b : Nat) : tagp lay a b = (b, a) := by unfold tagp; rw [if_pos h]
theorem row_from {lay n a : Nat} (hl : 1 ≤ lay ∧ lay ≤ 5) (hn : n ≤ 400) (ha : a < n) (d : Nat) : ∀ c : Nat, c + d = n →
    Ev (fun k => entrepotref07_row.l0 k (lay : Int) (n : Int) (a : Int) (few lay n a c : Int) (c : Int)) ((til lay n a - frm lay a : Nat) : Int) := by
  induction d with
  | zero =>
    intro c hc
    obtain rfl : c = n := by omega
    refine Ev.step (fun _ => entrepotref07_row.l0.eq_2 ..) (Ev.neg (by omega) ?_)
    rw [few_end ha]; exact Ev.now _
  | succ d ih =>
    intro c hc
    have hcn : c < n := by omega
    have hf := few_le (lay := lay) (n := n) (a := a) (c := c)
    refine Ev.step (fun _ => entrepotref07_row.l0.eq_2 ..) (Ev.pos (by omega) (Ev.bind (tells_ev (by omega) a c) ?_))
    have ht := tl_tag (lay := lay) (by omega) ha hcn
    rw [tag_lo (by omega)] at ht
    rw [ht, wn1 (by omega), wn1 (by omega)]
    by_cases h : frm lay a ≤ c ∧ c < til lay n a
    · refine Ev.pos (decide_eq_true h) ?_
      have := ih (c + 1) (by omega)
      rw [few_step h] at this
      exact this
    · refine Ev.neg (by rw [decide_eq_true_eq]; exact h) ?_
      have := ih (c + 1) (by omega)
      rw [few_skip h] at this
      exact this
theorem row_ev {lay n a : Nat} (hl : 1 ≤ lay ∧ lay ≤ 5) (hn : n ≤ 400) (ha : a < n) : Ev (fun k => entrepotref07_row.f k (lay : Int) (n : Int) (a : Int)) ((til lay n a - frm lay a : Nat) : Int) := by
  have := row_from hl hn ha n 0 (by omega)
  rw [few_zero] at this
  exact this
theorem column_from {lay n a : Nat} (hl : 6 ≤ lay ∧ lay ≤ 7) (hn : n ≤ 400) (ha : a < n) (d : Nat) : ∀ c : Nat, c + d = n →
    Ev (fun k => entrepotref07_column.l0 k (lay : Int) (n : Int) (a : Int) (few lay n a c : Int) (c : Int)) ((til lay n a - frm lay a : Nat) : Int) := by
  induction d with
  | zero =>
    intro c hc
    obtain rfl : c = n := by omega
    refine Ev.step (fun _ => entrepotref07_column.l0.eq_2 ..) (Ev.neg (by omega) ?_)
    rw [few_end ha]; exact Ev.now _
  | succ d ih =>
    intro c hc
    have hcn : c < n := by omega
    have hf := few_le (lay := lay) (n := n) (a := a) (c := c)
    refine Ev.step (fun _ => entrepotref07_column.l0.eq_2 ..) (Ev.pos (by omega) (Ev.bind (tells_ev (by omega) c a) ?_))
    have ht := tl_tag (lay := lay) (by omega) ha hcn
    rw [tag_hi (by omega)] at ht
    rw [ht, wn1 (by omega), wn1 (by omega)]
    by_cases h : frm lay a ≤ c ∧ c < til lay n a
    · refine Ev.pos (decide_eq_true h) ?_
      have := ih (c + 1) (by omega)
      rw [few_step h] at this
      exact this
    · refine Ev.neg (by rw [decide_eq_true_eq]; exact h) ?_
      have := ih (c + 1) (by omega)
      rw [few_skip h] at this
      exact this
theorem column_ev {lay n a : Nat} (hl : 6 ≤ lay ∧ lay ≤ 7) (hn : n ≤ 400) (ha : a < n) : Ev (fun k => entrepotref07_column.f k (lay : Int) (n : Int) (a : Int)) ((til lay n a - frm lay a : Nat) : Int) := by
  have := column_from hl hn ha n 0 (by omega)
  rw [few_zero] at this
  exact this
theorem ahead_le {lay n a : Nat} (hl : 1 ≤ lay ∧ lay ≤ 7) (hn : n ≤ 400) (ha : a ≤ n) : ahead lay n a ≤ 160400 := by
  have h1 : ahead lay n a ≤ ahead lay n n := (upTo_pre lay n ha).length_le
  rw [kOf_last hl] at h1
  have := cnt_le (lay := lay) hn
  omega
theorem at_in_lo {lay n a b : Nat} (hl : 1 ≤ lay ∧ lay ≤ 5) (hn : n ≤ 400) (ha : a < n) (hb : b < n) (d : Nat) : ∀ c : Nat, c + d = b →
    Ev (fun k => entrepotref07_at.l3 k (lay : Int) (a : Int) (b : Int) (kOf lay n a c : Int) (c : Int)) (kOf lay n a b : Int) := by
  induction d with
  | zero =>
    intro c hc
    obtain rfl : c = b := by omega
    exact Ev.step (fun _ => entrepotref07_at.l3.eq_2 ..) (Ev.neg (by omega) (Ev.now _))
  | succ d ih =>
    intro c hc
    have hcn : c < n := by omega
    have hk := kOf_le (lay := lay) (n := n) (a := a) (b := c) (by omega) ha
    have hq := cnt_le (lay := lay) hn
    refine Ev.step (fun _ => entrepotref07_at.l3.eq_2 ..) (Ev.pos (by omega) (Ev.bind (tells_ev (by omega) a c) ?_))
    have ht := tl_tag (lay := lay) (by omega) ha hcn
    rw [tag_lo (by omega)] at ht
    rw [ht, wn1 (by omega), wn1 (by omega)]
    by_cases h : frm lay a ≤ c ∧ c < til lay n a
    · refine Ev.pos (decide_eq_true h) ?_
      have := ih (c + 1) (by omega)
      rw [kOf_told h] at this
      exact this
    · refine Ev.neg (by rw [decide_eq_true_eq]; exact h) ?_
      have := ih (c + 1) (by omega)
      rw [kOf_not h] at this
      exact this
theorem at_in_hi {lay n a b : Nat} (hl : 6 ≤ lay ∧ lay ≤ 7) (hn : n ≤ 400) (ha : a < n) (hb : b < n) (d : Nat) : ∀ c : Nat, c + d = b →
    Ev (fun k => entrepotref07_at.l1 k (lay : Int) (b : Int) (a : Int) (kOf lay n a c : Int) (c : Int)) (kOf lay n a b : Int) := by
  induction d with
  | zero =>
    intro c hc
    obtain rfl : c = b := by omega
    exact Ev.step (fun _ => entrepotref07_at.l1.eq_2 ..) (Ev.neg (by omega) (Ev.now _))
  | succ d ih =>
    intro c hc
    have hcn : c < n := by omega
    have hk := kOf_le (lay := lay) (n := n) (a := a) (b := c) (by omega) ha
    have hq := cnt_le (lay := lay) hn
    refine Ev.step (fun _ => entrepotref07_at.l1.eq_2 ..) (Ev.pos (by omega) (Ev.bind (tells_ev (by omega) c a) ?_))
    have ht := tl_tag (lay := lay) (by omega) ha hcn
    rw [tag_hi (by omega)] at ht
    rw [ht, wn1 (by omega), wn1 (by omega)]
    by_cases h : frm lay a ≤ c ∧ c < til lay n a
    · refine Ev.pos (decide_eq_true h) ?_
      have := ih (c + 1) (by omega)
      rw [kOf_told h] at this
      exact this
    · refine Ev.neg (by rw [decide_eq_true_eq]; exact h) ?_
      have := ih (c + 1) (by omega)
      rw [kOf_not h] at this
      exact this
theorem at_lo {lay n a b : Nat} (hl : 1 ≤ lay ∧ lay ≤ 5) (hn : n ≤ 400) (ha : a < n) (hb : b < n) (d : Nat) : ∀ c : Nat, c + d = a →
    Ev (fun k => entrepotref07_at.l2 k (lay : Int) (n : Int) (a : Int) (b : Int) (ahead lay n c : Int) (c : Int)) (kOf lay n a b : Int) := by
  induction d with
  | zero =>
    intro c hc
    obtain rfl : c = a := by omega
    refine Ev.step (fun _ => entrepotref07_at.l2.eq_2 ..) (Ev.neg (by omega) ?_)
    have := at_in_lo hl hn ha hb b 0 (by omega)
    rw [kOf_row] at this
    exact this
  | succ d ih =>
    intro c hc
    have h1 := ahead_le (lay := lay) (n := n) (a := c + 1) (by omega) hn (by omega)
    have h2 := ahead_succ lay n c
    refine Ev.step (fun _ => entrepotref07_at.l2.eq_2 ..) (Ev.pos (by omega) (Ev.bind (row_ev hl hn (show c < n by omega)) ?_))
    rw [wn (by omega), wn1 (by omega), ← h2]
    exact ih (c + 1) (by omega)
theorem at_hi {lay n a b : Nat} (hl : 6 ≤ lay ∧ lay ≤ 7) (hn : n ≤ 400) (ha : a < n) (hb : b < n) (d : Nat) : ∀ c : Nat, c + d = a →
    Ev (fun k => entrepotref07_at.l0 k (lay : Int) (n : Int) (b : Int) (a : Int) (ahead lay n c : Int) (c : Int)) (kOf lay n a b : Int) := by
  induction d with
  | zero =>
    intro c hc
    obtain rfl : c = a := by omega
    refine Ev.step (fun _ => entrepotref07_at.l0.eq_2 ..) (Ev.neg (by omega) ?_)
    have := at_in_hi hl hn ha hb b 0 (by omega)
    rw [kOf_row] at this
    exact this
  | succ d ih =>
    intro c hc
    have h1 := ahead_le (lay := lay) (n := n) (a := c + 1) (by omega) hn (by omega)
    have h2 := ahead_succ lay n c
    refine Ev.step (fun _ => entrepotref07_at.l0.eq_2 ..) (Ev.pos (by omega) (Ev.bind (column_ev hl hn (show c < n by omega)) ?_))
    rw [wn (by omega), wn1 (by omega), ← h2]
    exact ih (c + 1) (by omega)
/-- The reference's place of what is told is the number of those ahead of it. -/
theorem at_ev {lay n i j : Nat} (hl : 1 ≤ lay ∧ lay ≤ 7) (hn : n ≤ 400) (hi : i < n) (hj : j < n) (ht : tl lay i j = true) : Ev (fun k => entrepotref07_at.f k (lay : Int) (n : Int) (i : Int) (j : Int)) (idx lay n i j) := by
  unfold entrepotref07_at.f
  by_cases h6 : lay < 6
  · have e := tl_tag hl hi hj
    rw [tag_lo h6, ht] at e
    have et := of_decide_eq_true e.symm
    have ei := kOf_idx hl (show Told lay n i j from ⟨hi, et⟩)
    rw [tag_lo h6] at ei
    rw [ei]
    refine Ev.neg (by omega) ?_
    have hb : ((lay : Int) == 7) = false := by simp; omega
    rw [hb]
    refine Ev.step (fun _ => entrepotref07_at.j0.eq_2 ..) (Ev.neg (by simp) ?_)
    have := at_lo ⟨hl.1, by omega⟩ hn hi hj i 0 (by omega)
    rw [ahead_zero] at this
    exact this
  · have e := tl_tag hl hj hi
    rw [tag_hi (by omega), ht] at e
    have et := of_decide_eq_true e.symm
    have ei := kOf_idx hl (show Told lay n j i from ⟨hj, et⟩)
    rw [tag_hi (by omega)] at ei
    rw [ei]
    have := at_hi ⟨by omega, hl.2⟩ hn hj hi j 0 (by omega)
    rw [ahead_zero] at this
    by_cases h7 : lay = 6
    · exact Ev.pos (by omega) (Ev.step (fun _ => entrepotref07_at.j0.eq_2 ..) (Ev.pos rfl this))
    · refine Ev.neg (by omega) ?_
      have hb : ((lay : Int) == 7) = true := by simp; omega
      rw [hb]
      exact Ev.step (fun _ => entrepotref07_at.j0.eq_2 ..) (Ev.pos rfl this)
theorem refmay_eq (a0 a1 : Int) : entrepotref07_may.f a0 a1 = some (mayB a0 a1) := by
  unfold entrepotref07_may.f mayB
  by_cases h1 : a0 ≥ 1
  · rw [if_pos h1]
    by_cases h2 : a0 ≤ 7
    · rw [if_pos h2, decide_eq_true (by omega : 1 ≤ a0 ∧ a0 ≤ 7), Bool.true_and]
      by_cases h3 : a1 ≥ 1
      · rw [if_pos h3]; congr 1; apply decide_eq_decide.2; omega
      · rw [if_neg h3, decide_eq_false (by omega)]
    · rw [if_neg h2, decide_eq_false (by omega)]; rfl
  · rw [if_neg h1, decide_eq_false (by omega)]; rfl
theorem refindex_ev {lay n i j : Nat} (hl : 1 ≤ lay ∧ lay ≤ 7) (hn : 1 ≤ n ∧ n ≤ 400) (hi : i < n) (hj : j < n) : Ev (fun k => entrepotref07_Index.f k (lay : Int) (n : Int) (i : Int) (j : Int)) (idx lay n i j) := by
  unfold entrepotref07_Index.f
  have hm : mayB (lay : Int) (n : Int) = true := by unfold mayB; rw [decide_eq_true (by omega), decide_eq_true (by omega)]; rfl
  refine Ev.bs (refmay_eq _ _) (Ev.pos hm (Ev.neg (by omega) (Ev.neg (by omega) (Ev.neg (by omega) ?_))))
  rw [decide_eq_false (by omega)]
  refine Ev.step (fun _ => entrepotref07_Index.j0.eq_2 ..) (Ev.neg (by simp) (Ev.bind (tells_ev hl i j) ?_))
  by_cases h1 : tl lay i j = true
  · exact Ev.pos h1 (Ev.bind (at_ev hl hn.2 hi hj h1) (Ev.now _))
  · refine Ev.neg h1 (Ev.bind (tells_ev hl j i) ?_)
    have hne : lay ≠ 1 := by rintro rfl; exact h1 rfl
    by_cases h2 : tl lay j i = true
    · rw [idx_sym hne]
      exact Ev.pos h2 (Ev.bind (at_ev hl hn.2 hj hi h2) (Ev.now _))
    · refine Ev.neg h2 ?_
      have h3 : ∀ x y : Nat, x < n → y < n → (x, y) ∈ placesOf lay n → tl lay x y = true := by
        intro x y hx hy hm
        obtain ⟨a, b, ⟨ha, hf, ht⟩, e⟩ := mem_places.1 hm
        have hb : b < n := by have := (frm_le (lay := lay) ha).2; omega
        have := tl_tag hl ha hb
        rw [← e] at this
        exact this.trans (decide_eq_true ⟨hf, ht⟩)
      rcases told_or hl hi hj with a | ⟨-, a⟩ | ⟨-, a, -⟩
      · exact absurd (h3 i j hi hj a) h1
      · exact absurd (h3 j i hj hi a) h2
      · rw [a]; exact Ev.now _
theorem refindex_no {a0 a1 a2 a3 : Int} (h : ¬ (mayB a0 a1 = true ∧ 0 ≤ a2 ∧ a2 < a1 ∧ 0 ≤ a3 ∧ a3 < a1)) : Ev (fun k => entrepotref07_Index.f k a0 a1 a2 a3) (-1) := by
  unfold entrepotref07_Index.f
  refine Ev.bs (refmay_eq _ _) ?_
  have go : Ev (fun k => entrepotref07_Index.j0 k a0 a1 a2 a3 true) (-1) := Ev.step (fun _ => entrepotref07_Index.j0.eq_2 ..) (Ev.pos rfl (Ev.now _))
  by_cases h0 : mayB a0 a1 = true
  · refine Ev.pos h0 ?_
    by_cases h1 : a2 < 0
    · exact Ev.pos h1 go
    refine Ev.neg h1 ?_
    by_cases h2 : a2 ≥ a1
    · exact Ev.pos h2 go
    refine Ev.neg h2 ?_
    by_cases h3 : a3 < 0
    · exact Ev.pos h3 go
    refine Ev.neg h3 ?_
    rw [decide_eq_true (by
      apply Classical.byContradiction; intro h4
      exact h ⟨h0, by omega, by omega, by omega, by omega⟩)]
    exact go
  · exact Ev.neg h0 go
theorem refcount_eq {lay n : Nat} (hl : 1 ≤ lay ∧ lay ≤ 7) (hn : 1 ≤ n ∧ n ≤ 400) : entrepotref07_Count.f (lay : Int) (n : Int) = some (cnt lay n : Int) := by
  unfold entrepotref07_Count.f cnt
  have hm : mayB (lay : Int) (n : Int) = true := by unfold mayB; rw [decide_eq_true (by omega), decide_eq_true (by omega)]; rfl
  rw [refmay_eq, bind_s, if_pos hm, sq_w hn.2, (tri_cast' n hn.2).1, (tri_cast n (by omega)).1]
  clear hn hm
  have hc : lay = 1 ∨ lay = 2 ∨ lay = 3 ∨ lay = 4 ∨ lay = 5 ∨ lay = 6 ∨ lay = 7 := by omega
  rcases hc with rfl | rfl | rfl | rfl | rfl | rfl | rfl <;> rfl
theorem refcount_no {a0 a1 : Int} (h : mayB a0 a1 = false) : entrepotref07_Count.f a0 a1 = some 0 := by
  unfold entrepotref07_Count.f
  rw [refmay_eq, bind_s, h, if_neg (by decide)]
end LayWalk
end Go.Proofs.YtdgdhmglcpkkiaaDoor
