/- Layouts: at which place a number stands, which matrix a list of numbers tells, and back. Plain lemmas, no program in sight. -/
import Derived.Test.YtdgdhmglcpkkiaaDoorGPlaces
set_option linter.unusedVariables false
set_option linter.unusedSimpArgs false
namespace Go.Proofs.YtdgdhmglcpkkiaaDoor
namespace LayWalk
/-- The triangle's numbers. -/
def tri (k : Nat) : Nat := k * (k - 1) / 2
theorem tri_succ (k : Nat) : tri (k + 1) = tri k + k := by
  unfold tri
  have h : (k + 1) * (k + 1 - 1) = k * (k - 1) + k * 2 := by
    cases k with
    | zero => rfl
    | succ k => simp only [Nat.add_sub_cancel, Nat.add_mul, Nat.mul_add]; omega
  rw [h, Nat.add_mul_div_right _ _ (by decide)]
theorem tri_le {k n : Nat} (h : k ≤ n) : tri k ≤ k * n := by
  unfold tri
  have : k * (k - 1) ≤ k * n := Nat.mul_le_mul_left _ (by omega)
  omega
/-- At which place a number stands: row i, column j. -/
def idx (lay n i j : Nat) : Int :=
  if lay = 1 then ((i * n + j : Nat) : Int)
  else if lay = 4 then ((min i j * n : Nat) : Int) - (tri (min i j) : Int) + (max i j : Nat) - (min i j : Nat)
  else if lay = 5 then (tri (max i j + 1) : Int) + (min i j : Nat)
  else if min i j = max i j then -1
  else if lay = 2 ∨ lay = 7 then ((min i j * n : Nat) : Int) - (tri (min i j + 1) : Int) + (max i j : Nat) - (min i j : Nat) - 1
  else (tri (max i j) : Int) + (min i j : Nat)
/-- How many stand ahead of row a. -/
def ahead (lay n a : Nat) : Nat := (upTo lay n a).length
theorem rowOf_len (lay n a : Nat) : (rowOf lay n a).length = til lay n a - frm lay a := by
  unfold rowOf rowTo
  rw [List.length_map, List.length_range']
theorem ahead_succ (lay n a : Nat) : ahead lay n (a + 1) = ahead lay n a + (til lay n a - frm lay a) := by
  unfold ahead
  rw [upTo_succ, List.length_append, rowOf_len]
theorem ahead_zero (lay n : Nat) : ahead lay n 0 = 0 := rfl
theorem ahead1 (n : Nat) : ∀ a, a ≤ n → ahead 1 n a = a * n
  | 0, _ => by rw [ahead_zero, Nat.zero_mul]
  | a + 1, h => by rw [ahead_succ, ahead1 n a (by omega), Nat.succ_mul]; rfl
theorem ahead27 {lay : Nat} (hl : lay = 2 ∨ lay = 7) (n : Nat) : ∀ a, a ≤ n → ahead lay n a + tri (a + 1) = a * n
  | 0, _ => by rw [ahead_zero, Nat.zero_mul]; rfl
  | a + 1, h => by
    have ih := ahead27 hl n a (by omega)
    have e : til lay n a - frm lay a = n - (a + 1) := by rcases hl with rfl | rfl <;> rfl
    rw [ahead_succ, e, Nat.succ_mul, tri_succ (a + 1)]
    omega
theorem ahead4 (n : Nat) : ∀ a, a ≤ n → ahead 4 n a + tri a = a * n
  | 0, _ => by rw [ahead_zero, Nat.zero_mul]; rfl
  | a + 1, h => by
    have ih := ahead4 n a (by omega)
    have e : til 4 n a - frm 4 a = n - a := rfl
    rw [ahead_succ, e, Nat.succ_mul, tri_succ a]
    omega
theorem ahead36 {lay : Nat} (hl : lay = 3 ∨ lay = 6) (n : Nat) : ∀ a, ahead lay n a = tri a
  | 0 => rfl
  | a + 1 => by
    have e : til lay n a - frm lay a = a := by rcases hl with rfl | rfl <;> rfl
    rw [ahead_succ, ahead36 hl n a, e, tri_succ]
theorem ahead5 (n : Nat) : ∀ a, ahead 5 n a = tri (a + 1)
  | 0 => rfl
  | a + 1 => by
    have e : til 5 n a - frm 5 a = a + 1 := rfl
    rw [ahead_succ, ahead5 n a, e, tri_succ (a + 1)]
theorem lay_cases {lay : Nat} (h : 1 ≤ lay ∧ lay ≤ 7) : lay = 1 ∨ (lay = 2 ∨ lay = 7) ∨ lay = 4 ∨ (lay = 3 ∨ lay = 6) ∨ lay = 5 := by omega
/-- Does a row tell a place? -/
def Told (lay n a b : Nat) : Prop := a < n ∧ frm lay a ≤ b ∧ b < til lay n a
theorem idx_tag {lay n a b : Nat} (hl : 1 ≤ lay ∧ lay ≤ 7) (h : Told lay n a b) : idx lay n (tagp lay a b).1 (tagp lay a b).2 = ((ahead lay n a + (b - frm lay a) : Nat) : Int) := by
  obtain ⟨ha, hf, ht⟩ := h
  rcases lay_cases hl with rfl | h2 | rfl | h3 | rfl
  · rw [ahead1 n a (by omega)]; rfl
  · have e := ahead27 h2 n a (by omega)
    have f : frm lay a = a + 1 := by rcases h2 with rfl | rfl <;> rfl
    have tg : idx lay n (tagp lay a b).1 (tagp lay a b).2 = ((min a b * n : Nat) : Int) - (tri (min a b + 1) : Int) + (max a b : Nat) - (min a b : Nat) - 1 := by
      rcases h2 with rfl | rfl
      · unfold idx tagp
        simp only [show ¬ (6 ≤ 2) by decide, if_false]
        rw [if_neg (by decide), if_neg (by decide), if_neg (by decide), if_neg (by omega), if_pos (by decide)]
      · unfold idx tagp
        simp only [show (6 ≤ 7) by decide, if_true]
        rw [if_neg (by decide), if_neg (by decide), if_neg (by decide), if_neg (by omega), if_pos (by decide), Nat.min_comm b a, Nat.max_comm b a]
    rw [tg, f, show min a b = a by omega, show max a b = b by omega]
    omega
  · have e := ahead4 n a (by omega)
    have f : frm 4 a = a := rfl
    have tg : idx 4 n (tagp 4 a b).1 (tagp 4 a b).2 = ((min a b * n : Nat) : Int) - (tri (min a b) : Int) + (max a b : Nat) - (min a b : Nat) := rfl
    rw [f] at hf
    rw [tg, f, show min a b = a by omega, show max a b = b by omega]
    omega
  · have e := ahead36 h3 n a
    have f : frm lay a = 0 := by rcases h3 with rfl | rfl <;> rfl
    have t : til lay n a = a := by rcases h3 with rfl | rfl <;> rfl
    have tg : idx lay n (tagp lay a b).1 (tagp lay a b).2 = (tri (max a b) : Int) + (min a b : Nat) := by
      rcases h3 with rfl | rfl
      · unfold idx tagp
        simp only [show ¬ (6 ≤ 3) by decide, if_false]
        rw [if_neg (by decide), if_neg (by decide), if_neg (by decide), if_neg (by omega), if_neg (by decide)]
      · unfold idx tagp
        simp only [show (6 ≤ 6) by decide, if_true]
        rw [if_neg (by decide), if_neg (by decide), if_neg (by decide), if_neg (by omega), if_neg (by decide), Nat.min_comm b a, Nat.max_comm b a]
    rw [tg, f, e, show min a b = b by omega, show max a b = a by omega]
    omega
  · have e := ahead5 n a
    have f : frm 5 a = 0 := rfl
    have t : til 5 n a = a + 1 := rfl
    have tg : idx 5 n (tagp 5 a b).1 (tagp 5 a b).2 = (tri (max a b + 1) : Int) + (min a b : Nat) := rfl
    rw [t] at ht
    rw [tg, f, e, show min a b = b by omega, show max a b = a by omega]
    omega
theorem idx_sym {lay : Nat} (h : lay ≠ 1) (n i j : Nat) : idx lay n i j = idx lay n j i := by
  unfold idx
  rw [if_neg h, if_neg h, Nat.min_comm i j, Nat.max_comm i j]
def pidx (lay n : Nat) (x : Place) : Int := idx lay n x.1 x.2
theorem row_idx {lay n a : Nat} (hl : 1 ≤ lay ∧ lay ≤ 7) (ha : a < n) : (rowOf lay n a).map (pidx lay n) = (List.range' (ahead lay n a) (til lay n a - frm lay a)).map (fun k : Nat => (k : Int)) := by
  unfold rowOf rowTo
  have hf := frm_le (lay := lay) ha
  apply List.ext_getElem
  · simp
  · intro k h1 h2
    simp only [List.length_map, List.length_range'] at h1
    simp only [List.getElem_map, List.getElem_range']
    rw [show frm lay a + 1 * k = frm lay a + k by omega]
    unfold pidx
    rw [idx_tag hl ⟨ha, by omega, by omega⟩]
    omega
theorem up_idx {lay n : Nat} (hl : 1 ≤ lay ∧ lay ≤ 7) : ∀ a, a ≤ n → (upTo lay n a).map (pidx lay n) = (List.range (ahead lay n a)).map (fun k : Nat => (k : Int))
  | 0, _ => rfl
  | a + 1, h => by
    rw [upTo_succ, List.map_append, up_idx hl a (by omega), row_idx hl (by omega), ahead_succ, ← List.map_append, List.range_eq_range', List.range_eq_range']
    congr 1
    have := List.range'_append (s := 0) (m := ahead lay n a) (n := til lay n a - frm lay a) (step := 1)
    rw [← this]
    congr 2; omega
theorem places_idx {lay n : Nat} (hl : 1 ≤ lay ∧ lay ≤ 7) {k : Nat} {x : Place} (h : (placesOf lay n)[k]? = some x) : idx lay n x.1 x.2 = (k : Int) := by
  have e := congrArg (fun l => l[k]?) (up_idx hl n (Nat.le_refl _))
  simp only [List.getElem?_map] at e
  rw [show upTo lay n n = placesOf lay n from rfl, h] at e
  have hk : k < ahead lay n n := by
    unfold ahead
    rw [show upTo lay n n = placesOf lay n from rfl]
    exact (List.getElem?_eq_some_iff.1 h).1
  rw [List.getElem?_range hk] at e
  exact Option.some.inj e
theorem mem_places {lay n : Nat} {x : Place} : x ∈ placesOf lay n ↔ ∃ a b, Told lay n a b ∧ x = tagp lay a b := by
  unfold placesOf upTo
  rw [List.mem_flatMap]
  constructor
  · rintro ⟨a, ha, hx⟩
    rw [List.mem_range] at ha
    unfold rowOf rowTo at hx
    obtain ⟨b, hb, rfl⟩ := List.mem_map.1 hx
    rw [List.mem_range'_1] at hb
    exact ⟨a, b, ⟨ha, by omega, by omega⟩, rfl⟩
  · rintro ⟨a, b, ⟨ha, hf, ht⟩, rfl⟩
    refine ⟨a, List.mem_range.2 ha, ?_⟩
    unfold rowOf rowTo
    exact List.mem_map.2 ⟨b, List.mem_range'_1.2 ⟨hf, by omega⟩, rfl⟩
theorem at_place {lay n : Nat} (hl : 1 ≤ lay ∧ lay ≤ 7) {x : Place} (h : x ∈ placesOf lay n) : ∃ k : Nat, (placesOf lay n)[k]? = some x ∧ idx lay n x.1 x.2 = (k : Int) := by
  obtain ⟨k, hk, e⟩ := List.mem_iff_getElem.1 h
  have : (placesOf lay n)[k]? = some x := by rw [List.getElem?_eq_getElem hk, e]
  exact ⟨k, this, places_idx hl this⟩
/-- A place, or its mirrored one, is told; or it lies on a diagonal that is not. -/
theorem told_or {lay n i j : Nat} (hl : 1 ≤ lay ∧ lay ≤ 7) (hi : i < n) (hj : j < n) : (i, j) ∈ placesOf lay n ∨ (lay ≠ 1 ∧ (j, i) ∈ placesOf lay n) ∨ (i = j ∧ idx lay n i j = -1 ∧ lay ≠ 1 ∧ lay ≠ 4 ∧ lay ≠ 5) := by
  rw [mem_places, mem_places]
  rcases lay_cases hl with rfl | h2 | rfl | h3 | rfl
  · exact .inl ⟨i, j, ⟨hi, Nat.zero_le _, hj⟩, rfl⟩
  · by_cases e : i = j
    · refine .inr (.inr ⟨e, ?_, by omega, by omega, by omega⟩)
      unfold idx
      rw [if_neg (by omega), if_neg (by omega), if_neg (by omega), if_pos (by omega)]
    · rcases h2 with rfl | rfl
      · by_cases l : i < j
        · exact .inl ⟨i, j, ⟨hi, l, hj⟩, rfl⟩
        · exact .inr (.inl ⟨by decide, j, i, ⟨hj, by show j + 1 ≤ i; omega, hi⟩, rfl⟩)
      · by_cases l : i < j
        · exact .inr (.inl ⟨by decide, i, j, ⟨hi, l, hj⟩, rfl⟩)
        · exact .inl ⟨j, i, ⟨hj, by show j + 1 ≤ i; omega, hi⟩, rfl⟩
  · by_cases l : i ≤ j
    · exact .inl ⟨i, j, ⟨hi, l, hj⟩, rfl⟩
    · exact .inr (.inl ⟨by decide, j, i, ⟨hj, by show j ≤ i; omega, hi⟩, rfl⟩)
  · by_cases e : i = j
    · refine .inr (.inr ⟨e, ?_, by omega, by omega, by omega⟩)
      unfold idx
      rw [if_neg (by omega), if_neg (by omega), if_neg (by omega), if_pos (by omega)]
    · rcases h3 with rfl | rfl
      · by_cases l : i < j
        · exact .inr (.inl ⟨by decide, j, i, ⟨hj, Nat.zero_le _, l⟩, rfl⟩)
        · exact .inl ⟨i, j, ⟨hi, Nat.zero_le _, by show j < i; omega⟩, rfl⟩
      · by_cases l : i < j
        · exact .inl ⟨j, i, ⟨hj, Nat.zero_le _, l⟩, rfl⟩
        · exact .inr (.inl ⟨by decide, i, j, ⟨hi, Nat.zero_le _, by show j < i; omega⟩, rfl⟩)
  · by_cases l : j ≤ i
    · exact .inl ⟨i, j, ⟨hi, Nat.zero_le _, by show j < i + 1; omega⟩, rfl⟩
    · exact .inr (.inl ⟨by decide, j, i, ⟨hj, Nat.zero_le _, by show i < j + 1; omega⟩, rfl⟩)
/-- The one place, or its mirrored one, has its number. -/
theorem idx_one {lay n i j i' j' : Nat} (hl : 1 ≤ lay ∧ lay ≤ 7) (hi : i < n) (hj : j < n) (hi' : i' < n) (hj' : j' < n) (h : idx lay n i j = idx lay n i' j') (h0 : 0 ≤ idx lay n i j) : (i' = i ∧ j' = j) ∨ (lay ≠ 1 ∧ i' = j ∧ j' = i) := by
  have go : ∀ x y : Place, x ∈ placesOf lay n → y ∈ placesOf lay n → idx lay n x.1 x.2 = idx lay n y.1 y.2 → x = y := by
    intro x y hx hy e
    obtain ⟨k, hk, ek⟩ := at_place hl hx
    obtain ⟨m, hm, em⟩ := at_place hl hy
    have : k = m := by omega
    subst this
    rw [hk] at hm
    exact Option.some.inj hm
  rcases told_or hl hi hj with a | ⟨n1, a⟩ | ⟨_, a, _⟩
  · rcases told_or hl hi' hj' with b | ⟨n2, b⟩ | ⟨_, b, _⟩
    · have := go _ _ a b h; cases this; exact .inl ⟨rfl, rfl⟩
    · have := go _ _ a b (h.trans (idx_sym n2 n _ _)); cases this; exact .inr ⟨n2, rfl, rfl⟩
    · omega
  · rcases told_or hl hi' hj' with b | ⟨n2, b⟩ | ⟨_, b, _⟩
    · have := go _ _ a b ((idx_sym n1 n _ _).trans h); cases this; exact .inr ⟨n1, rfl, rfl⟩
    · have := go _ _ a b ((idx_sym n1 n _ _).trans (h.trans (idx_sym n2 n _ _))); cases this; exact .inl ⟨rfl, rfl⟩
    · omega
  · omega
/-- How many numbers a layout tells. -/
def cnt (lay n : Nat) : Nat := if lay = 1 then n * n else if lay = 4 ∨ lay = 5 then tri (n + 1) else tri n
theorem tri2 (k : Nat) : tri k + tri (k + 1) = k * k := by
  induction k with
  | zero => rfl
  | succ k ih => rw [tri_succ (k + 1), Nat.add_mul, Nat.mul_add]; rw [tri_succ k] at ih ⊢; omega
theorem places_len {lay n : Nat} (hl : 1 ≤ lay ∧ lay ≤ 7) : (placesOf lay n).length = cnt lay n := by
  rw [show (placesOf lay n).length = ahead lay n n from rfl]
  unfold cnt
  have t := tri2 n
  rcases lay_cases hl with rfl | h2 | rfl | h3 | rfl
  · exact ahead1 n n (Nat.le_refl _)
  · have := ahead27 h2 n n (Nat.le_refl _)
    rw [if_neg (by omega), if_neg (by omega)]; omega
  · have := ahead4 n n (Nat.le_refl _)
    rw [if_neg (by omega), if_pos (by omega)]; omega
  · rw [ahead36 h3, if_neg (by omega), if_neg (by omega)]
  · rw [ahead5]; rfl
/-- A number's place is among those. -/
theorem idx_lt {lay n i j : Nat} (hl : 1 ≤ lay ∧ lay ≤ 7) (hi : i < n) (hj : j < n) : -1 ≤ idx lay n i j ∧ idx lay n i j < (cnt lay n : Int) := by
  have go : ∀ x : Place, x ∈ placesOf lay n → 0 ≤ idx lay n x.1 x.2 ∧ idx lay n x.1 x.2 < (cnt lay n : Int) := by
    intro x hx
    obtain ⟨k, hk, ek⟩ := at_place hl hx
    have := (List.getElem?_eq_some_iff.1 hk).1
    rw [places_len hl] at this
    omega
  rcases told_or hl hi hj with a | ⟨n1, a⟩ | ⟨_, a, _⟩
  · have := go _ a; simp only at this; omega
  · have := go _ a; rw [idx_sym n1]; simp only at this; omega
  · omega
/-- The number at a place of a list, 0 where none stands; only those ahead of k count. -/
def pick (l : List Int) (k : Nat) (z : Int) : Int := if 0 ≤ z ∧ z < (k : Int) then l.getD z.toNat 0 else 0
/-- The matrix of a list's first k numbers. -/
def unpk (lay n : Nat) (l : List Int) (k : Nat) : List Int := (List.range (n * n)).map fun t => pick l k (idx lay n (t / n) (t % n))
def unp (lay n : Nat) (l : List Int) : List Int := unpk lay n l (cnt lay n)
theorem unpk_length (lay n : Nat) (l : List Int) (k : Nat) : (unpk lay n l k).length = n * n := by unfold unpk; simp
theorem cell_lt {n i j : Nat} (hi : i < n) (hj : j < n) : i * n + j < n * n := by
  have h1 : (i + 1) * n ≤ n * n := Nat.mul_le_mul_right _ hi
  rw [Nat.succ_mul] at h1
  omega
theorem cell_div {n i j : Nat} (hj : j < n) : (i * n + j) / n = i ∧ (i * n + j) % n = j := by
  constructor
  · rw [Nat.mul_comm, Nat.mul_add_div (by omega), Nat.div_eq_of_lt hj, Nat.add_zero]
  · rw [Nat.mul_comm, Nat.mul_add_mod, Nat.mod_eq_of_lt hj]
theorem cell_of {n t : Nat} (h : t < n * n) : t / n < n ∧ t % n < n ∧ t = t / n * n + t % n := by
  have hn : 0 < n := by
    rcases Nat.eq_zero_or_pos n with rfl | h'
    · omega
    · exact h'
  refine ⟨Nat.div_lt_of_lt_mul h, Nat.mod_lt _ hn, ?_⟩
  rw [Nat.mul_comm]; exact (Nat.div_add_mod t n).symm
theorem unpk_at {lay n : Nat} (l : List Int) (k : Nat) {i j : Nat} (hi : i < n) (hj : j < n) : (unpk lay n l k).getD (i * n + j) 0 = pick l k (idx lay n i j) := by
  have h := cell_lt hi hj
  obtain ⟨e1, e2⟩ := cell_div (i := i) hj
  rw [List.getD_eq_getElem?_getD]
  unfold unpk
  rw [List.getElem?_map, List.getElem?_range h]
  simp only [Option.map_some, Option.getD_some, e1, e2]
theorem unpk_zero (lay n : Nat) (l : List Int) : unpk lay n l 0 = List.replicate (n * n) 0 := by
  unfold unpk
  apply List.ext_getElem
  · simp
  · intro k h1 h2
    simp only [List.getElem_map, List.getElem_replicate, List.getElem_range]
    unfold pick
    rw [if_neg (by omega)]
/-- The number at (i, j) of a matrix. -/
def valN (m : List Int) (n : Nat) (x : Place) : Int := m.getD (x.1 * n + x.2) 0
/-- What a layout leaves out can be told from what it tells. -/
def FitsB (lay n : Nat) (m : List Int) : Prop := ∀ i j, i < n → j < n → (lay ≠ 1 → valN m n (i, j) = valN m n (j, i)) ∧ (idx lay n i i < 0 → valN m n (i, i) = 0)
theorem mat_ext {n : Nat} {a b : List Int} (ha : a.length = n * n) (hb : b.length = n * n) (h : ∀ i j, i < n → j < n → valN a n (i, j) = valN b n (i, j)) : a = b := by
  apply List.ext_getElem (by rw [ha, hb])
  intro t h1 h2
  obtain ⟨c1, c2, c3⟩ := cell_of (n := n) (t := t) (by omega)
  have := h _ _ c1 c2
  unfold valN at this
  simp only at this
  rw [← c3] at this
  rw [List.getD_eq_getElem?_getD, List.getD_eq_getElem?_getD, List.getElem?_eq_getElem h1, List.getElem?_eq_getElem h2] at this
  exact this
theorem unp_val {lay n : Nat} (l : List Int) {i j : Nat} (hi : i < n) (hj : j < n) : valN (unp lay n l) n (i, j) = pick l (cnt lay n) (idx lay n i j) := unpk_at l _ hi hj
theorem unp_fits {lay n : Nat} (l : List Int) : FitsB lay n (unp lay n l) := by
  intro i j hi hj
  refine ⟨fun h => ?_, fun h => ?_⟩
  · rw [unp_val l hi hj, unp_val l hj hi, idx_sym h]
  · rw [unp_val l hi hi]; unfold pick; rw [if_neg (by omega)]
/-- What a layout tells of a matrix. -/
def told (lay n : Nat) (m : List Int) : List Int := (placesOf lay n).map (valN m n)
theorem told_length {lay n : Nat} (hl : 1 ≤ lay ∧ lay ≤ 7) (m : List Int) : (told lay n m).length = cnt lay n := by unfold told; rw [List.length_map, places_len hl]
theorem mem_lt {lay n : Nat} {x : Place} (h : x ∈ placesOf lay n) : x.1 < n ∧ x.2 < n := by
  obtain ⟨a, b, ⟨ha, hf, ht⟩, rfl⟩ := mem_places.1 h
  have := (frm_le (lay := lay) ha).2
  unfold tagp
  split <;> constructor <;> simp only <;> omega
theorem told_unp {lay n : Nat} (hl : 1 ≤ lay ∧ lay ≤ 7) {l : List Int} (h : l.length = cnt lay n) : told lay n (unp lay n l) = l := by
  apply List.ext_getElem
  · rw [told_length hl, h]
  · intro k h1 h2
    have hk : k < (placesOf lay n).length := by rw [places_len hl]; omega
    have e := places_idx hl (List.getElem?_eq_getElem hk)
    have hm := mem_lt (List.getElem_mem hk)
    simp only [told, List.getElem_map]
    have := unp_val (lay := lay) (n := n) l hm.1 hm.2
    rw [this, e]
    unfold pick
    rw [if_pos (by omega), Int.toNat_natCast, List.getD_eq_getElem?_getD, List.getElem?_eq_getElem h2]; rfl
theorem pick_told {lay n : Nat} (hl : 1 ≤ lay ∧ lay ≤ 7) (m : List Int) {x : Place} (h : x ∈ placesOf lay n) : pick (told lay n m) (cnt lay n) (idx lay n x.1 x.2) = valN m n x := by
  obtain ⟨k, hk, ek⟩ := at_place hl h
  have hlt := (List.getElem?_eq_some_iff.1 hk).1
  rw [places_len hl] at hlt
  rw [ek]
  unfold pick
  rw [if_pos (by omega), Int.toNat_natCast, List.getD_eq_getElem?_getD]
  unfold told
  rw [List.getElem?_map, hk]; rfl
theorem unp_told {lay n : Nat} (hl : 1 ≤ lay ∧ lay ≤ 7) {m : List Int} (hm : m.length = n * n) (hf : FitsB lay n m) : unp lay n (told lay n m) = m := by
  refine mat_ext (unpk_length ..) hm fun i j hi hj => ?_
  rw [unp_val _ hi hj]
  rcases told_or hl hi hj with a | ⟨n1, a⟩ | ⟨rfl, a, -⟩
  · have := pick_told hl m a
    simp only at this
    exact this
  · have := pick_told hl m a
    simp only at this
    rw [idx_sym n1, this, (hf i j hi hj).1 n1]
  · have e : pick (told lay n m) (cnt lay n) (-1) = 0 := by unfold pick; rw [if_neg (by omega)]
    rw [a, e, (hf i i hi hi).2 (by omega)]
/-- One more number is told: it is set at its place and, if all are not told, at the mirrored one. -/
theorem unpk_step {lay n : Nat} (hl : 1 ≤ lay ∧ lay ≤ 7) {l : List Int} (h : l.length = cnt lay n) {k : Nat} {x : Place} (hx : (placesOf lay n)[k]? = some x) :
    (if lay ≠ 1 then ((unpk lay n l k).set (x.1 * n + x.2) (l.getD k 0)).set (x.2 * n + x.1) (l.getD k 0) else (unpk lay n l k).set (x.1 * n + x.2) (l.getD k 0)) = unpk lay n l (k + 1) := by
  have hm := mem_lt (List.mem_of_getElem? hx)
  have ex := places_idx hl hx
  have hk : k < cnt lay n := by
    have := (List.getElem?_eq_some_iff.1 hx).1
    rwa [places_len hl] at this
  have hlen : ∀ v, (if lay ≠ 1 then ((unpk lay n l k).set (x.1 * n + x.2) v).set (x.2 * n + x.1) v else (unpk lay n l k).set (x.1 * n + x.2) v).length = n * n := by
    intro v; split <;> simp [unpk_length]
  refine mat_ext (hlen _) (unpk_length ..) fun i j hi hj => ?_
  have e1 : ∀ k, valN (unpk lay n l k) n (i, j) = pick l k (idx lay n i j) := fun k => unpk_at l k hi hj
  rw [e1]
  have hc := cell_lt hi hj
  have c0 := cell_div (n := n) (i := i) hj
  have c1 := cell_div (n := n) (i := x.1) hm.2
  have c2 := cell_div (n := n) (i := x.2) hm.1
  have i1 : x.1 * n + x.2 = i * n + j ↔ x.1 = i ∧ x.2 = j := by
    constructor
    · intro e; rw [e] at c1; omega
    · rintro ⟨rfl, rfl⟩; rfl
  have i2 : x.2 * n + x.1 = i * n + j ↔ x.2 = i ∧ x.1 = j := by
    constructor
    · intro e; rw [e] at c2; omega
    · rintro ⟨rfl, rfl⟩; rfl
  have old : (idx lay n i j ≠ (k : Int)) → pick l (k + 1) (idx lay n i j) = pick l k (idx lay n i j) := by
    intro hne
    unfold pick
    by_cases hz : 0 ≤ idx lay n i j ∧ idx lay n i j < (k : Int)
    · rw [if_pos (by omega), if_pos hz]
    · rw [if_neg (by omega), if_neg hz]
  have new : (idx lay n i j = (k : Int)) → pick l (k + 1) (idx lay n i j) = l.getD k 0 := by
    intro he
    unfold pick
    rw [if_pos (by omega), he, Int.toNat_natCast]
  have e2 := e1 k
  unfold valN at e2 ⊢
  simp only [List.getD_eq_getElem?_getD] at e2 ⊢
  by_cases h1 : lay = 1
  · rw [if_neg (by omega)]
    rw [List.getElem?_set]
    by_cases hh : x.1 = i ∧ x.2 = j
    · rw [if_pos (i1.2 hh), if_pos (by rw [unpk_length, i1.2 hh]; exact hc), new (by rw [← hh.1, ← hh.2]; exact ex)]; simp
    · rw [if_neg (mt i1.1 hh), e2, old]
      intro he
      rcases idx_one hl hm.1 hm.2 hi hj (ex.trans he.symm) (by omega) with ⟨a, b⟩ | ⟨a, -⟩
      · exact hh ⟨a.symm, b.symm⟩
      · exact a h1
  · rw [if_pos h1, List.getElem?_set, List.getElem?_set]
    by_cases hh : x.2 = i ∧ x.1 = j
    · rw [if_pos (i2.2 hh), if_pos (by rw [List.length_set, unpk_length, i2.2 hh]; exact hc), new (by rw [idx_sym h1, ← hh.1, ← hh.2]; exact ex)]; simp
    · rw [if_neg (mt i2.1 hh)]
      by_cases hg : x.1 = i ∧ x.2 = j
      · rw [if_pos (i1.2 hg), if_pos (by rw [unpk_length, i1.2 hg]; exact hc), new (by rw [← hg.1, ← hg.2]; exact ex)]; simp
      · rw [if_neg (mt i1.1 hg), e2, old]
        intro he
        rcases idx_one hl hm.1 hm.2 hi hj (ex.trans he.symm) (by omega) with ⟨a, b⟩ | ⟨-, a, b⟩
        · exact hg ⟨a.symm, b.symm⟩
        · exact hh ⟨a.symm, b.symm⟩
/-- How many are told ahead of row a's number b. -/
def kOf (lay n a b : Nat) : Nat := ahead lay n a + (min b (til lay n a) - frm lay a)
theorem kOf_row (lay n a : Nat) : kOf lay n a 0 = ahead lay n a := by unfold kOf; omega
theorem kOf_end {lay n a : Nat} (ha : a < n) : kOf lay n a n = ahead lay n (a + 1) := by
  have := frm_le (lay := lay) ha
  unfold kOf; rw [ahead_succ, show min n (til lay n a) = til lay n a by omega]
theorem kOf_told {lay n a b : Nat} (h : frm lay a ≤ b ∧ b < til lay n a) : kOf lay n a (b + 1) = kOf lay n a b + 1 := by unfold kOf; omega
theorem kOf_not {lay n a b : Nat} (h : ¬ (frm lay a ≤ b ∧ b < til lay n a)) : kOf lay n a (b + 1) = kOf lay n a b := by unfold kOf; omega
theorem place_at {lay n a b : Nat} (hl : 1 ≤ lay ∧ lay ≤ 7) (h : Told lay n a b) : (placesOf lay n)[kOf lay n a b]? = some (tagp lay a b) := by
  obtain ⟨k, hk, ek⟩ := at_place hl (mem_places.2 ⟨a, b, h, rfl⟩)
  rw [idx_tag hl h] at ek
  have : kOf lay n a b = k := by have := h.2; unfold kOf; omega
  rw [this]; exact hk
theorem kOf_idx {lay n a b : Nat} (hl : 1 ≤ lay ∧ lay ≤ 7) (h : Told lay n a b) : idx lay n (tagp lay a b).1 (tagp lay a b).2 = (kOf lay n a b : Int) := places_idx hl (place_at hl h)
theorem kOf_last {lay n : Nat} (hl : 1 ≤ lay ∧ lay ≤ 7) : ahead lay n n = cnt lay n := places_len hl
theorem kOf_le {lay n a b : Nat} (hl : 1 ≤ lay ∧ lay ≤ 7) (ha : a < n) : kOf lay n a b ≤ cnt lay n := by
  have h1 : ahead lay n (a + 1) ≤ ahead lay n n := (upTo_pre lay n (show a + 1 ≤ n from ha)).length_le
  rw [← kOf_last hl]
  rw [ahead_succ] at h1
  unfold kOf; omega
theorem cnt_le {lay n : Nat} (hn : n ≤ 400) : cnt lay n ≤ 160400 := by
  have h1 : n * n ≤ 400 * 400 := Nat.mul_le_mul hn hn
  have h2 := tri2 n
  have h3 := tri_succ n
  unfold cnt
  repeat' split
  all_goals omega
/-- Layouts that tell the same places. -/
theorem idx_27 (n i j : Nat) : idx 2 n i j = idx 7 n i j := rfl
theorem idx_36 (n i j : Nat) : idx 3 n i j = idx 6 n i j := rfl
theorem unp_27 (n : Nat) (l : List Int) : unp 2 n l = unp 7 n l := rfl
theorem unp_36 (n : Nat) (l : List Int) : unp 3 n l = unp 6 n l := rfl
end LayWalk
end Go.Proofs.YtdgdhmglcpkkiaaDoor
