/- The reference's Unpack, Pack and keywords: what they compute. Plain lemmas. -/
import Derived.Test.YtdgdhmglcpkkiaaDoorGLayU
import Derived.Test.YtdgdhmglcpkkiaaDoorPxEntrepotref07Pack
import Derived.Test.YtdgdhmglcpkkiaaDoorMla
import Derived.Test.YtdgdhmglcpkkiaaDoorMlb
set_option linter.unusedVariables false
set_option linter.unusedSimpArgs false
namespace Go.Proofs.YtdgdhmglcpkkiaaDoor
open Go.RowKit
namespace LayWalk
open Go.RowKit Go.Proofs.YtdgdhmglcpkkiaaDoorW.PrintWords Go.Proofs.YtdgdhmglcpkkiaaDoorW.PrintLast Go.Proofs.YtdgdhmglcpkkiaaDoorW.PrintMore P KeyWalk
theorem refun_zero {lay n : Nat} (hn : n ≤ 400) {l : List Int} {R : List Int × Int}
    (h : Ev (fun k => entrepotref07_Unpack.l1 k (lay : Int) (n : Int) l (List.replicate (n * n) 0) 0 0) R) (d : Nat) : ∀ t : Nat, t + d = n * n →
    Ev (fun k => entrepotref07_Unpack.l0 k (lay : Int) (n : Int) l (List.replicate t 0) (t : Int)) R := by
  have hb : n * n ≤ 400 * 400 := Nat.mul_le_mul hn hn
  induction d with
  | zero =>
    intro t ht
    obtain rfl : t = n * n := by omega
    refine Ev.step (fun _ => entrepotref07_Unpack.l0.eq_2 ..) ?_
    rw [sq_w hn]
    exact Ev.neg (by omega) h
  | succ d ih =>
    intro t ht
    refine Ev.step (fun _ => entrepotref07_Unpack.l0.eq_2 ..) ?_
    rw [sq_w hn, wn1 (by omega)]
    refine Ev.pos (by omega) (Ev.pos (by simp; omega) ?_)
    rw [← List.replicate_succ']
    exact ih (t + 1) (by omega)
/-- One number of the reference's matrix. -/
theorem refun_j4 {lay n a b : Nat} (hl : 1 ≤ lay ∧ lay ≤ 7) (hn : n ≤ 400) {l : List Int} (hm : l.length = cnt lay n) (ha : a < n) (hb : b < n) {R : List Int × Int} {i j : Nat} (hij : tagp lay a b = (i, j))
    (ih : Ev (fun k => entrepotref07_Unpack.l2 k (lay : Int) (n : Int) l (unpk lay n l (kOf lay n a (b + 1))) (kOf lay n a (b + 1) : Int) (a : Int) ((b + 1 : Nat) : Int)) R) :
    Ev (fun k => entrepotref07_Unpack.j4 k (lay : Int) (n : Int) l (unpk lay n l (kOf lay n a b)) (kOf lay n a b : Int) (a : Int) (b : Int) (i : Int) (j : Int)) R := by
  have hi : i < n := by unfold tagp at hij; split at hij <;> cases hij <;> assumption
  have hj : j < n := by unfold tagp at hij; split at hij <;> cases hij <;> assumption
  have ht := tl_tag hl ha hb
  rw [hij] at ht
  simp only at ht
  refine Ev.step (fun _ => entrepotref07_Unpack.j4.eq_2 ..) (Ev.bind (tells_ev hl i j) ?_)
  rw [ht, wn1 (x := b) (by omega)]
  by_cases h : frm lay a ≤ b ∧ b < til lay n a
  · have hk := kOf_le (lay := lay) (n := n) (a := a) (b := b + 1) hl ha
    rw [kOf_told h] at ih hk
    have hq := cnt_le (lay := lay) hn
    have c1 := cell_lt hi hj
    have c2 := cell_lt hj hi
    have hs := unpk_step hl hm (k := kOf lay n a b) (x := (i, j)) (by rw [← hij]; exact place_at hl ⟨ha, h⟩)
    simp only at hs
    refine Ev.pos (decide_eq_true h) (Ev.pos (by omega) (Ev.pos (by omega) ?_))
    rw [cell_w (by omega) hn (by omega), cell_w (by omega) hn (by omega), wn1 (by omega), rd_nat, Int.toNat_natCast, Int.toNat_natCast]
    refine Ev.pos (by omega) (Ev.pos (by rw [unpk_length]; omega) (Ev.bs rfl ?_))
    by_cases h1 : lay = 1
    · rw [if_neg (by omega)] at hs
      rw [hs]
      exact Ev.pos (by omega) ih
    · rw [if_pos h1] at hs
      rw [hs]
      exact Ev.neg (by omega) (Ev.pos (by omega) (Ev.pos (by rw [unpk_length]; omega) ih))
  · refine Ev.neg (by rw [decide_eq_true_eq]; exact h) ?_
    rw [kOf_not h] at ih
    exact ih
theorem refun_row {lay n a : Nat} (hl : 1 ≤ lay ∧ lay ≤ 7) (hn : n ≤ 400) {l : List Int} (hm : l.length = cnt lay n) (ha : a < n) {R : List Int × Int}
    (ih : Ev (fun k => entrepotref07_Unpack.l1 k (lay : Int) (n : Int) l (unpk lay n l (ahead lay n (a + 1))) (ahead lay n (a + 1) : Int) ((a + 1 : Nat) : Int)) R) (d : Nat) : ∀ b : Nat, b + d = n →
    Ev (fun k => entrepotref07_Unpack.l2 k (lay : Int) (n : Int) l (unpk lay n l (kOf lay n a b)) (kOf lay n a b : Int) (a : Int) (b : Int)) R := by
  induction d with
  | zero =>
    intro b hb
    obtain rfl : b = n := by omega
    refine Ev.step (fun _ => entrepotref07_Unpack.l2.eq_2 ..) (Ev.neg (by omega) ?_)
    rw [wn1 (by omega), kOf_end ha]
    exact ih
  | succ d ihd =>
    intro b hb
    have hbn : b < n := by omega
    refine Ev.step (fun _ => entrepotref07_Unpack.l2.eq_2 ..) (Ev.pos (by omega) ?_)
    by_cases h6 : lay < 6
    · have hf : ((lay : Int) == 7) = false := by simp; omega
      rw [hf]
      refine Ev.neg (by omega) (Ev.step (fun _ => entrepotref07_Unpack.j3.eq_2 ..) (Ev.neg (by simp) ?_))
      exact refun_j4 hl hn hm ha hbn (tag_lo h6 a b) (ihd (b + 1) (by omega))
    · have go : Ev (fun k => entrepotref07_Unpack.j3 k (lay : Int) (n : Int) l (unpk lay n l (kOf lay n a b)) (kOf lay n a b : Int) (a : Int) (b : Int) (a : Int) (b : Int) true) R :=
        Ev.step (fun _ => entrepotref07_Unpack.j3.eq_2 ..) (Ev.pos rfl (refun_j4 hl hn hm ha hbn (tag_hi (by omega) a b) (ihd (b + 1) (by omega))))
      by_cases h7 : lay = 6
      · exact Ev.pos (by omega) go
      · have hf : ((lay : Int) == 7) = true := by simp; omega
        rw [hf]
        exact Ev.neg (by omega) go
theorem refun_from {lay n : Nat} (hl : 1 ≤ lay ∧ lay ≤ 7) (hn : n ≤ 400) {l : List Int} (hm : l.length = cnt lay n) (d : Nat) : ∀ a : Nat, a + d = n →
    Ev (fun k => entrepotref07_Unpack.l1 k (lay : Int) (n : Int) l (unpk lay n l (ahead lay n a)) (ahead lay n a : Int) (a : Int)) (unp lay n l, 0) := by
  induction d with
  | zero =>
    intro a ha
    obtain rfl : a = n := by omega
    refine Ev.step (fun _ => entrepotref07_Unpack.l1.eq_2 ..) (Ev.neg (by omega) ?_)
    rw [kOf_last hl]; exact Ev.now _
  | succ d ih =>
    intro a ha
    refine Ev.step (fun _ => entrepotref07_Unpack.l1.eq_2 ..) (Ev.pos (by omega) ?_)
    have := refun_row hl hn hm (show a < n by omega) (ih (a + 1) (by omega)) n 0 (by omega)
    rw [kOf_row] at this
    exact this
theorem refunpack_ev (a0 a1 : Int) (l : List Int) : Ev (fun k => entrepotref07_Unpack.f k a0 a1 l) (unpackV a0 a1 l) := by
  unfold entrepotref07_Unpack.f unpackV
  refine Ev.bs (refmay_eq a0 a1) ?_
  by_cases hm : mayB a0 a1 = true
  · obtain ⟨lay, n, rfl, rfl, hl, hn⟩ := may_nat hm
    rw [if_pos hm, Int.toNat_natCast, Int.toNat_natCast]
    refine Ev.pos hm (Ev.bs (refcount_eq hl hn) ?_)
    by_cases h1 : l.length = cnt lay n
    · rw [if_pos h1]
      refine Ev.pos (by omega) ?_
      have h2 := refun_from hl hn.2 h1 n 0 (by omega)
      rw [ahead_zero, unpk_zero] at h2
      exact refun_zero hn.2 h2 (n * n) 0 (by omega)
    · rw [if_neg h1]
      exact Ev.neg (by omega) (Ev.now _)
  · rw [if_neg hm]
    exact Ev.neg hm (Ev.now _)
/-- May the diagonal's number be as it is? -/
def Dg (lay n : Nat) (m : List Int) (i j : Nat) : Prop := i = j → tl lay i i = false → valN m n (i, j) = 0
/-- Is a place of the order's round (a, b) as it may be? -/
def OkAt (lay n : Nat) (m : List Int) (x : Place) : Prop := Chk lay n m x.1 x.2 ∧ Dg lay n m x.1 x.2
theorem okAt_iff (lay n : Nat) (m : List Int) (i j : Nat) : OkAt lay n m (i, j) ↔ Chk lay n m i j ∧ Dg lay n m i j := Iff.rfl
def packR (lay n : Nat) (m : List Int) (b : Bool) : List Int × Int := if b = true then (told lay n m, 0) else ([], 70)
theorem refpk_j4 {lay n a b : Nat} (hl : 1 ≤ lay ∧ lay ≤ 7) (hn : n ≤ 400) {m : List Int} (hm : m.length = n * n) (ha : a < n) (hb : b < n) {R : List Int × Int} {i j : Nat} (hij : tagp lay a b = (i, j))
    (ih : Ev (fun k => entrepotref07_Pack.l1 k (lay : Int) (n : Int) m ((told lay n m).take (kOf lay n a (b + 1))) (a : Int) ((b + 1 : Nat) : Int)) R) :
    Ev (fun k => entrepotref07_Pack.j4 k (lay : Int) (n : Int) m ((told lay n m).take (kOf lay n a b)) (a : Int) (b : Int) (i : Int) (j : Int) false) R := by
  have hi : i < n := by unfold tagp at hij; split at hij <;> cases hij <;> assumption
  have hj : j < n := by unfold tagp at hij; split at hij <;> cases hij <;> assumption
  have ht := tl_tag hl ha hb
  rw [hij] at ht
  simp only at ht
  refine Ev.step (fun _ => entrepotref07_Pack.j4.eq_2 ..) (Ev.neg (by simp) (Ev.bind (tells_ev hl i j) ?_))
  rw [ht, wn1 (x := b) (by omega)]
  by_cases h : frm lay a ≤ b ∧ b < til lay n a
  · have hk := kOf_le (lay := lay) (n := n) (a := a) (b := b + 1) hl ha
    have hq := cnt_le (lay := lay) hn
    have c1 := cell_lt hi hj
    have hp := place_at hl (show Told lay n a b from ⟨ha, h⟩)
    rw [hij] at hp
    rw [kOf_told h] at ih hk
    have hlt : kOf lay n a b < (told lay n m).length := by rw [told_length hl]; omega
    have he : (told lay n m)[kOf lay n a b] = valN m n (i, j) := by
      apply Option.some.inj
      rw [← List.getElem?_eq_getElem hlt]
      unfold told
      rw [List.getElem?_map, hp]; rfl
    rw [List.take_succ_eq_append_getElem hlt, he] at ih
    refine Ev.pos (decide_eq_true h) ?_
    rw [cell_w (by omega) hn (by omega), rd_nat]
    exact Ev.pos (by omega) (Ev.pos (by omega) (Ev.pos (by rw [List.length_take]; omega) ih))
  · refine Ev.neg (by rw [decide_eq_true_eq]; exact h) ?_
    rw [kOf_not h] at ih
    exact ih
theorem refpk_bad {lay n : Nat} {m l : List Int} {a b i j : Int} : Ev (fun k => entrepotref07_Pack.j4 k (lay : Int) (n : Int) m l a b i j true) ([], 70) :=
  Ev.step (fun _ => entrepotref07_Pack.j4.eq_2 ..) (Ev.pos rfl (Ev.now _))
theorem refpk_dia {lay n i j : Nat} (hl : 1 ≤ lay ∧ lay ≤ 7) (hn : n ≤ 400) {m : List Int} (hm : m.length = n * n) (hi : i < n) (hj : j < n) {R : List Int × Int} {l : List Int} {a b : Int}
    (h1 : ¬ Dg lay n m i j → Ev (fun k => entrepotref07_Pack.j4 k (lay : Int) (n : Int) m l a b (i : Int) (j : Int) true) R) (h2 : Dg lay n m i j → Ev (fun k => entrepotref07_Pack.j4 k (lay : Int) (n : Int) m l a b (i : Int) (j : Int) false) R) :
    Ev (fun k => if (i : Int) = (j : Int) then ((entrepotref07_tells.f k (lay : Int) (i : Int) (i : Int)).bind fun t => if t = true then (entrepotref07_Pack.j4 k (lay : Int) (n : Int) m l a b (i : Int) (j : Int) false) else (if 0 ≤ (wrap64 ((wrap64 ((i : Int) * (n : Int))) + (i : Int))) then (if (wrap64 ((wrap64 ((i : Int) * (n : Int))) + (i : Int))) < (m.length : Int) then (entrepotref07_Pack.j4 k (lay : Int) (n : Int) m l a b (i : Int) (j : Int) ((rd m (wrap64 ((wrap64 ((i : Int) * (n : Int))) + (i : Int)))) != 0)) else none) else none)) else (entrepotref07_Pack.j4 k (lay : Int) (n : Int) m l a b (i : Int) (j : Int) false)) R := by
  by_cases e : i = j
  · subst e
    have c1 := cell_lt hi hi
    refine Ev.pos rfl (Ev.bind (tells_ev hl i i) ?_)
    by_cases ht : tl lay i i = true
    · exact Ev.pos ht (h2 (fun _ h => by rw [ht] at h; cases h))
    · refine Ev.neg ht ?_
      rw [cell_w (by omega) hn (by omega), rd_nat]
      refine Ev.pos (by omega) (Ev.pos (by omega) ?_)
      by_cases hz : valN m n (i, i) = 0
      · have : (m.getD (i * n + i) 0 != 0) = false := bne_eq_false_iff_eq.mpr hz
        rw [this]; exact h2 (fun _ _ => hz)
      · have : (m.getD (i * n + i) 0 != 0) = true := bne_iff_ne.mpr hz
        rw [this]; exact h1 (fun h => hz (h rfl (by simpa using ht)))
  · exact Ev.neg (by omega) (h2 (fun h => absurd h e))
theorem cell_facts (lay : Nat) {n i j : Nat} {m : List Int} (hn : n ≤ 400) (hm : m.length = n * n) (hi : i < n) (hj : j < n) :
    wrap64 (wrap64 ((i : Int) * (n : Int)) + (j : Int)) = ((i * n + j : Nat) : Int) ∧ wrap64 (wrap64 ((j : Int) * (n : Int)) + (i : Int)) = ((j * n + i : Nat) : Int) ∧ 0 ≤ ((i * n + j : Nat) : Int) ∧ ((i * n + j : Nat) : Int) < (m.length : Int) ∧
      0 ≤ ((j * n + i : Nat) : Int) ∧ ((j * n + i : Nat) : Int) < (m.length : Int) ∧ (lay = 1 → (lay : Int) = 1) ∧ (lay ≠ 1 → ¬ (lay : Int) = 1) := by
  have c1 := cell_lt hi hj
  have c2 := cell_lt hj hi
  exact ⟨cell_w (by omega) hn (by omega), cell_w (by omega) hn (by omega), by omega, by omega, by omega, by omega, by omega, by omega⟩
theorem refpk_j3 {lay n a b : Nat} (hl : 1 ≤ lay ∧ lay ≤ 7) (hn : n ≤ 400) {m : List Int} (hm : m.length = n * n) (ha : a < n) (hb : b < n) {i j : Nat} (hij : tagp lay a b = (i, j)) {Q : Prop}
    (ih : ∃ r, Ev (fun k => entrepotref07_Pack.l1 k (lay : Int) (n : Int) m ((told lay n m).take (kOf lay n a (b + 1))) (a : Int) ((b + 1 : Nat) : Int)) (packR lay n m r) ∧ (r = true ↔ Q)) :
    ∃ r, Ev (fun k => entrepotref07_Pack.j3 k (lay : Int) (n : Int) m ((told lay n m).take (kOf lay n a b)) (a : Int) (b : Int) (i : Int) (j : Int)) (packR lay n m r) ∧ (r = true ↔ OkAt lay n m (i, j) ∧ Q) := by
  have hi : i < n := by unfold tagp at hij; split at hij <;> cases hij <;> assumption
  have hj : j < n := by unfold tagp at hij; split at hij <;> cases hij <;> assumption
  obtain ⟨e1, e2, P1, P2, P3, P4, L1, L2⟩ := cell_facts lay hn hm hi hj
  obtain ⟨r, hr, hq⟩ := ih
  rw [okAt_iff]
  by_cases hs : Chk lay n m i j
  · by_cases hd : Dg lay n m i j
    · refine ⟨r, ?_, by rw [hq]; exact ⟨fun q => ⟨⟨hs, hd⟩, q⟩, fun q => q.2⟩⟩
      refine Ev.step (fun _ => entrepotref07_Pack.j3.eq_2 ..) ?_
      have go := refpk_dia (R := packR lay n m r) (l := (told lay n m).take (kOf lay n a b)) (a := (a : Int)) (b := (b : Int)) hl hn hm hi hj (fun h => absurd hd h) (fun _ => refpk_j4 hl hn hm ha hb hij hr)
      by_cases h1 : lay = 1
      · exact Ev.pos (L1 h1) go
      · refine Ev.neg (L2 h1) ?_
        rw [e1, e2, rd_nat, rd_nat]
        have hs' : m.getD (i * n + j) 0 = m.getD (j * n + i) 0 := hs h1
        refine Ev.pos P1 (Ev.pos P2 (Ev.pos P3 (Ev.pos P4 ?_)))
        refine Ev.pos hs' ?_
        exact go
    · refine ⟨false, ?_, ⟨fun h => (by cases h), fun q => absurd q.1.2 hd⟩⟩
      refine Ev.step (fun _ => entrepotref07_Pack.j3.eq_2 ..) ?_
      have go := refpk_dia (R := packR lay n m false) (l := (told lay n m).take (kOf lay n a b)) (a := (a : Int)) (b := (b : Int)) hl hn hm hi hj (fun _ => refpk_bad) (fun h => absurd h hd)
      by_cases h1 : lay = 1
      · exact Ev.pos (L1 h1) go
      · refine Ev.neg (L2 h1) ?_
        rw [e1, e2, rd_nat, rd_nat]
        have hs' : m.getD (i * n + j) 0 = m.getD (j * n + i) 0 := hs h1
        refine Ev.pos P1 (Ev.pos P2 (Ev.pos P3 (Ev.pos P4 ?_)))
        refine Ev.pos hs' ?_
        exact go
  · have h1 : lay ≠ 1 := fun h => hs (fun h' => absurd h h')
    refine ⟨false, ?_, ⟨fun h => (by cases h), fun q => absurd q.1.1 hs⟩⟩
    refine Ev.step (fun _ => entrepotref07_Pack.j3.eq_2 ..) (Ev.neg (L2 h1) ?_)
    rw [e1, e2, rd_nat, rd_nat]
    have hs' : ¬ m.getD (i * n + j) 0 = m.getD (j * n + i) 0 := fun h => hs (fun _ => h)
    refine Ev.pos P1 (Ev.pos P2 (Ev.pos P3 (Ev.pos P4 ?_)))
    exact Ev.neg hs' refpk_bad
theorem refpk_row {lay n a : Nat} (hl : 1 ≤ lay ∧ lay ≤ 7) (hn : n ≤ 400) {m : List Int} (hm : m.length = n * n) (ha : a < n) {Q : Prop}
    (ih : ∃ r, Ev (fun k => entrepotref07_Pack.l0 k (lay : Int) (n : Int) m ((told lay n m).take (ahead lay n (a + 1))) ((a + 1 : Nat) : Int)) (packR lay n m r) ∧ (r = true ↔ Q)) (d : Nat) : ∀ b : Nat, b + d = n →
    ∃ r, Ev (fun k => entrepotref07_Pack.l1 k (lay : Int) (n : Int) m ((told lay n m).take (kOf lay n a b)) (a : Int) (b : Int)) (packR lay n m r) ∧ (r = true ↔ (∀ b', b ≤ b' → b' < n → OkAt lay n m (tagp lay a b')) ∧ Q) := by
  induction d with
  | zero =>
    intro b hb
    obtain rfl : b = n := by omega
    obtain ⟨r, hr, hq⟩ := ih
    refine ⟨r, ?_, by rw [hq]; exact ⟨fun q => ⟨fun b' _ _ => by omega, q⟩, fun q => q.2⟩⟩
    refine Ev.step (fun _ => entrepotref07_Pack.l1.eq_2 ..) (Ev.neg (by omega) ?_)
    rw [wn1 (by omega), kOf_end ha]
    exact hr
  | succ d ihd =>
    intro b hb
    have hbn : b < n := by omega
    obtain ⟨i, j, hij⟩ : ∃ i j, tagp lay a b = (i, j) := ⟨_, _, rfl⟩
    obtain ⟨r, hr, hq⟩ := refpk_j3 hl hn hm ha hbn hij (ihd (b + 1) (by omega))
    refine ⟨r, ?_, ?_⟩
    · refine Ev.step (fun _ => entrepotref07_Pack.l1.eq_2 ..) (Ev.pos (by omega) ?_)
      by_cases h6 : lay < 6
      · rw [tag_lo h6] at hij
        cases hij
        have hf : ((lay : Int) == 7) = false := by simp; omega
        rw [hf]
        exact Ev.neg (by omega) (Ev.step (fun _ => entrepotref07_Pack.j2.eq_2 ..) (Ev.neg (by simp) hr))
      · rw [tag_hi (by omega)] at hij
        cases hij
        by_cases h7 : lay = 6
        · exact Ev.pos (by omega) (Ev.step (fun _ => entrepotref07_Pack.j2.eq_2 ..) (Ev.pos rfl hr))
        · have hf : ((lay : Int) == 7) = true := by simp; omega
          rw [hf]
          exact Ev.neg (by omega) (Ev.step (fun _ => entrepotref07_Pack.j2.eq_2 ..) (Ev.pos rfl hr))
    · rw [hq, ← hij]
      constructor
      · rintro ⟨q1, q2, q3⟩
        refine ⟨fun b' h1 h2 => ?_, q3⟩
        by_cases e : b' = b
        · subst e; exact q1
        · exact q2 b' (by omega) h2
      · rintro ⟨q1, q2⟩
        exact ⟨q1 b (Nat.le_refl _) hbn, fun b' h1 h2 => q1 b' (by omega) h2, q2⟩
theorem refpk_from {lay n : Nat} (hl : 1 ≤ lay ∧ lay ≤ 7) (hn : n ≤ 400) {m : List Int} (hm : m.length = n * n) (d : Nat) : ∀ a : Nat, a + d = n →
    ∃ r, Ev (fun k => entrepotref07_Pack.l0 k (lay : Int) (n : Int) m ((told lay n m).take (ahead lay n a)) (a : Int)) (packR lay n m r) ∧ (r = true ↔ ∀ a', a ≤ a' → a' < n → ∀ b', b' < n → OkAt lay n m (tagp lay a' b')) := by
  induction d with
  | zero =>
    intro a ha
    obtain rfl : a = n := by omega
    refine ⟨true, ?_, fun _ a' h1 h2 => by omega, fun _ => rfl⟩
    refine Ev.step (fun _ => entrepotref07_Pack.l0.eq_2 ..) (Ev.neg (by omega) ?_)
    rw [kOf_last hl, List.take_of_length_le (by rw [told_length hl]; omega)]
    exact Ev.now _
  | succ d ih =>
    intro a ha
    obtain ⟨r, hr, hq⟩ := refpk_row hl hn hm (show a < n by omega) (ih (a + 1) (by omega)) n 0 (by omega)
    rw [kOf_row] at hr
    refine ⟨r, Ev.step (fun _ => entrepotref07_Pack.l0.eq_2 ..) (Ev.pos (by omega) hr), ?_⟩
    rw [hq]
    constructor
    · rintro ⟨q1, q2⟩ a' h1 h2
      by_cases e : a' = a
      · subst e; exact fun b' h => q1 b' (Nat.zero_le _) h
      · exact q2 a' (by omega) h2
    · intro q
      exact ⟨fun b' _ h => q a (Nat.le_refl _) (by omega) b' h, fun a' h1 h2 => q a' (by omega) h2⟩
theorem ok_fits {lay n : Nat} (hl : 1 ≤ lay ∧ lay ≤ 7) (m : List Int) : (∀ a', 0 ≤ a' → a' < n → ∀ b', b' < n → OkAt lay n m (tagp lay a' b')) ↔ FitsB lay n m := by
  constructor
  · intro h i j hi hj
    have go : ∀ x y, x < n → y < n → OkAt lay n m (x, y) := by
      intro x y hx hy
      by_cases h6 : lay < 6
      · have := h x (Nat.zero_le _) hx y hy
        rwa [tag_lo h6] at this
      · have := h y (Nat.zero_le _) hy x hx
        rwa [tag_hi (by omega)] at this
    exact ⟨(go i j hi hj).1, fun hd => (go i i hi hi).2 rfl ((tl_dia hl hi).1 hd)⟩
  · intro h a _ ha b hb
    have go : ∀ x y, x < n → y < n → OkAt lay n m (x, y) := by
      intro x y hx hy
      refine ⟨(h x y hx hy).1, ?_⟩
      intro e hd
      simp only at e
      subst e
      exact (h x x hx hx).2 ((tl_dia hl hx).2 hd)
    by_cases h6 : lay < 6
    · rw [tag_lo h6]; exact go a b ha hb
    · rw [tag_hi (by omega)]; exact go b a hb ha
/-- What both answer of Pack. -/
def packV (a0 a1 : Int) (l : List Int) : List Int × Int :=
  if mayB a0 a1 = true then (if (l.length : Int) = a1 * a1 then (if fitsD a0.toNat a1.toNat l = true then (told a0.toNat a1.toNat l, 0) else ([], 70)) else ([], 70)) else ([], 1)
theorem pack_eq (a0 a1 : Int) (l : List Int) : layout_Pack.f a0 a1 l = some (packV a0 a1 l) := by
  unfold layout_Pack.f packV
  repeat' split
  all_goals rfl
theorem refpack_ev (a0 a1 : Int) (l : List Int) : Ev (fun k => entrepotref07_Pack.f k a0 a1 l) (packV a0 a1 l) := by
  unfold entrepotref07_Pack.f packV
  refine Ev.bs (refmay_eq a0 a1) ?_
  by_cases hm : mayB a0 a1 = true
  · obtain ⟨lay, n, rfl, rfl, hl, hn⟩ := may_nat hm
    rw [if_pos hm, Int.toNat_natCast, Int.toNat_natCast, sq_w hn.2]
    refine Ev.pos hm ?_
    by_cases h1 : l.length = n * n
    · rw [if_pos (by rw [← Int.natCast_mul]; omega)]
      refine Ev.pos (by omega) ?_
      obtain ⟨r, hr, hq⟩ := refpk_from hl hn.2 h1 n 0 (by omega)
      have e : r = fitsD lay n l := by rw [Bool.eq_iff_iff, hq, fitsD_iff, ok_fits hl]
      rw [e, ahead_zero, List.take_zero] at hr
      exact hr
    · rw [if_neg (by rw [← Int.natCast_mul]; omega)]
      exact Ev.neg (by omega) (Ev.now _)
  · rw [if_neg hm]
    exact Ev.neg hm (Ev.now _)
theorem keyword_eq (a : Int) : layout_Keyword.f a = entrepotref07_Keyword.f a := by
  unfold layout_Keyword.f entrepotref07_Keyword.f keyTxt
  by_cases h : 1 ≤ a ∧ a ≤ 7
  · rw [if_pos h]
    have : a = 1 ∨ a = 2 ∨ a = 3 ∨ a = 4 ∨ a = 5 ∨ a = 6 ∨ a = 7 := by omega
    rcases this with rfl | rfl | rfl | rfl | rfl | rfl | rfl <;> rfl
  · rw [if_neg h, if_neg (by omega), if_neg (by omega), if_neg (by omega), if_neg (by omega), if_neg (by omega), if_neg (by omega), if_neg (by omega)]
theorem of_from (b : ByteArray) (d : Nat) : ∀ x : Nat, x + d = 8 → ∃ r, Ev (fun k => layout_Of.l0 k b (x : Int)) r ∧ Ev (fun k => entrepotref07_Of.l0 k b (x : Int)) r := by
  induction d with
  | zero =>
    intro x hx
    exact ⟨0, Ev.step (fun _ => layout_Of.l0.eq_2 ..) (Ev.neg (by omega) (Ev.now _)), Ev.step (fun _ => entrepotref07_Of.l0.eq_2 ..) (Ev.neg (by omega) (Ev.now _))⟩
  | succ d ih =>
    intro x hx
    have e : layout_Keyword.f (x : Int) = some (keyTxt x) := rfl
    have e' : entrepotref07_Keyword.f (x : Int) = some (keyTxt x) := (keyword_eq x).symm
    by_cases h : (keyTxt (x : Int)).toList = b.toList
    · exact ⟨x, Ev.step (fun _ => layout_Of.l0.eq_2 ..) (Ev.pos (by omega) (Ev.bs e (Ev.pos h (Ev.now _)))), Ev.step (fun _ => entrepotref07_Of.l0.eq_2 ..) (Ev.pos (by omega) (Ev.bs e' (Ev.pos h (Ev.now _))))⟩
    · obtain ⟨r, h1, h2⟩ := ih (x + 1) (by omega)
      refine ⟨r, Ev.step (fun _ => layout_Of.l0.eq_2 ..) (Ev.pos (by omega) (Ev.bs e (Ev.neg h ?_))), Ev.step (fun _ => entrepotref07_Of.l0.eq_2 ..) (Ev.pos (by omega) (Ev.bs e' (Ev.neg h ?_)))⟩
      · rw [wn1 (by omega)]; exact h1
      · rw [wn1 (by omega)]; exact h2
theorem of_ev (b : ByteArray) : ∃ r, Ev (fun k => layout_Of.f k b) r ∧ Ev (fun k => entrepotref07_Of.f k b) r := of_from b 7 1 (by omega)
end LayWalk
end Go.Proofs.YtdgdhmglcpkkiaaDoor
