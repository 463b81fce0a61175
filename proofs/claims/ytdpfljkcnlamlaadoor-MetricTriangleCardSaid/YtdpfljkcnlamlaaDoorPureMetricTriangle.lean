/- Of distances that are rounded up, and of whole ones by sides, the way through a third point is no shorter. -/
import Derived.Test.YtdpfljkcnlamlaaDoorPxEntrepotlaw06MetricTriangle
import Derived.Test.YtdpfljkcnlamlaaDoorGMet
namespace Go.Proofs.YtdpfljkcnlamlaaDoor.Pure
open Go.RowKit Go.Proofs.YtdpfljkcnlamlaaDoor.P Go.Proofs.YtdpfljkcnlamlaaDoorW.PrintWords Go.Proofs.YtdpfljkcnlamlaaDoorW.PrintLast
open DistWalk
theorem sqi (a : Int) : ((a.natAbs * a.natAbs : Nat) : Int) = a * a := Int.natAbs_mul_self
theorem sq2i (x y : Int) : (sq2 x y : Int) = x * x + y * y := by
  unfold sq2
  rw [Int.natCast_add, sqi, sqi]
theorem sqi_nonneg (a : Int) : 0 ≤ a * a := by rw [← sqi]; omega
/-- What is at most a product of squares' roots. -/
theorem le_of_sq {c p : Int} (hp : 0 ≤ p) (h : c * c ≤ p * p) : c ≤ p := by
  rcases (by omega : p < c ∨ c ≤ p) with hc | hc
  · have h1 : p * p ≤ c * p := Int.mul_le_mul_of_nonneg_right (by omega) hp
    have h2 : c * p < c * c := Int.mul_lt_mul_of_pos_left hc (by omega)
    omega
  · exact hc
theorem cauchy (a b c d : Int) : (a * c + b * d) * (a * c + b * d) ≤ (a * a + b * b) * (c * c + d * d) := by
  have h := sqi_nonneg (a * d - b * c)
  have e : (a * a + b * b) * (c * c + d * d) = (a * c + b * d) * (a * c + b * d) + (a * d - b * c) * (a * d - b * c) := by grind
  omega
theorem ceil_tri {n1 n2 n3 p k d : Nat} (hk : 1 ≤ k) (hd : 1 ≤ d) (hs : n3 ≤ n1 + n2 + 2 * p) (hp : p * p ≤ n1 * n2) : ceil n3 k d ≤ ceil n1 k d + ceil n2 k d := by
  rw [ceil_le hk hd]
  have h1 := (ceil_le hk hd (n := n1)).1 (Nat.le_refl _)
  have h2 := (ceil_le hk hd (n := n2)).1 (Nat.le_refl _)
  generalize ceil n1 k d = A at *
  generalize ceil n2 k d = B at *
  have h3 : n1 * n2 ≤ (A * d * (A * d) * k) * (B * d * (B * d) * k) := Nat.mul_le_mul h1 h2
  have h4 : (A * d * (A * d) * k) * (B * d * (B * d) * k) = (A * d * (B * d) * k) * (A * d * (B * d) * k) := by grind
  have h5 : p ≤ A * d * (B * d) * k := sq_le_iff.1 (by omega)
  have h6 : (A + B) * d * ((A + B) * d) * k = A * d * (A * d) * k + B * d * (B * d) * k + 2 * (A * d * (B * d) * k) := by grind
  omega
theorem way_tri {m : Int} {t : Nat} (ht : 1 ≤ t) (ax ay bx by_ : Int) (h : m = 2 ∨ m = 5 ∨ ((m = 3 ∨ m = 4) ∧ t = 1)) : way m t (ax + bx) (ay + by_) ≤ way m t ax ay + way m t bx by_ := by
  have hs : sq2 (ax + bx) (ay + by_) ≤ sq2 ax ay + sq2 bx by_ + 2 * (ax * bx + ay * by_).toNat := by
    have e1 := sq2i (ax + bx) (ay + by_); have e2 := sq2i ax ay; have e3 := sq2i bx by_
    have e4 : (ax + bx) * (ax + bx) + (ay + by_) * (ay + by_) = ax * ax + ay * ay + (bx * bx + by_ * by_) + 2 * (ax * bx + ay * by_) := by grind
    omega
  have hp : (ax * bx + ay * by_).toNat * (ax * bx + ay * by_).toNat ≤ sq2 ax ay * sq2 bx by_ := by
    rcases (by omega : ax * bx + ay * by_ < 0 ∨ 0 ≤ ax * bx + ay * by_) with h0 | h0
    · rw [Int.toNat_of_nonpos (by omega)]; omega
    · have := cauchy ax ay bx by_
      rw [← sq2i, ← sq2i] at this
      have e : (((ax * bx + ay * by_).toNat : Nat) : Int) = ax * bx + ay * by_ := Int.toNat_of_nonneg h0
      rw [← e] at this
      exact_mod_cast this
  have n1 : ∀ a : Nat, nst a 1 = a := fun a => by unfold nst; omega
  unfold way
  rcases h with rfl | rfl | ⟨rfl | rfl, rfl⟩
  · simp only [show ¬ ((2 : Int) = 1) by decide, if_false, if_true]; exact ceil_tri (Nat.le_refl 1) ht hs hp
  · simp only [show ¬ ((5 : Int) = 1) by decide, show ¬ ((5 : Int) = 2) by decide, show ¬ ((5 : Int) = 3) by decide, show ¬ ((5 : Int) = 4) by decide, if_false, if_true]; exact ceil_tri (by omega) ht hs hp
  · simp only [show ¬ ((3 : Int) = 1) by decide, show ¬ ((3 : Int) = 2) by decide, if_false, if_true, n1]; omega
  · simp only [show ¬ ((4 : Int) = 1) by decide, show ¬ ((4 : Int) = 2) by decide, show ¬ ((4 : Int) = 3) by decide, if_false, if_true, n1]; omega
theorem sq2_bd {x y : Int} (hx : ¬ far x) (hy : ¬ far y) : sq2 x y ≤ 80000000000000000 := (sum_sq hx hy).2
theorem tri_bd {m : Int} {t : Nat} (ht : 1 ≤ t) {x y : Int} (hx : ¬ far x) (hy : ¬ far y) (h : m = 2 ∨ m = 5 ∨ ((m = 3 ∨ m = 4) ∧ t = 1)) : way m t x y ≤ 1000000000 := by
  have hb := sq2_bd hx hy
  have hc : ∀ k, 1 ≤ k → ceil (sq2 x y) k t ≤ 1000000000 := fun k hk => by
    rw [ceil_le hk ht]
    have h1 : 1000000000 ≤ 1000000000 * t := Nat.le_mul_of_pos_right _ (by omega)
    have h2 : 1000000000 * 1000000000 ≤ 1000000000 * t * (1000000000 * t) := Nat.mul_le_mul h1 h1
    have h3 : 1000000000 * t * (1000000000 * t) ≤ 1000000000 * t * (1000000000 * t) * k := Nat.le_mul_of_pos_right _ (by omega)
    omega
  have n1 : ∀ a : Nat, nst a 1 = a := fun a => by unfold nst; omega
  unfold far at hx hy
  unfold way
  rcases h with rfl | rfl | ⟨rfl | rfl, rfl⟩
  · simp only [show ¬ ((2 : Int) = 1) by decide, if_false, if_true]; exact hc 1 (by omega)
  · simp only [show ¬ ((5 : Int) = 1) by decide, show ¬ ((5 : Int) = 2) by decide, show ¬ ((5 : Int) = 3) by decide, show ¬ ((5 : Int) = 4) by decide, if_false, if_true]; exact hc 10 (by omega)
  · simp only [show ¬ ((3 : Int) = 1) by decide, show ¬ ((3 : Int) = 2) by decide, if_false, if_true, n1]; omega
  · simp only [show ¬ ((4 : Int) = 1) by decide, show ¬ ((4 : Int) = 2) by decide, show ¬ ((4 : Int) = 3) by decide, if_false, if_true, n1]; omega
theorem tri_j1 {m s ax ay bx by_ : Int} (h1 : ¬ far ax) (h2 : ¬ far ay) (h3 : ¬ far bx) (h4 : ¬ far by_) (h5 : ¬ far (ax + bx)) (h6 : ¬ far (ay + by_)) (h : m = 2 ∨ m = 5 ∨ ((m = 3 ∨ m = 4) ∧ s = 0)) :
    entrepotlaw06_MetricTriangle.j1 1 m s ax ay bx by_ false = some true := by
  simp only [entrepotlaw06_MetricTriangle.j1]
  have e1 : wrap64 (ax + bx) = ax + bx := by unfold far at *; unfold wrap64; omega
  have e2 : wrap64 (ay + by_) = ay + by_ := by unfold far at *; unfold wrap64; omega
  rw [if_neg (by decide), e1, e2]
  by_cases hb : badK m s
  · rw [dist_bad _ _ hb, bind_s, dist_bad _ _ hb, bind_s, dist_bad _ _ hb, bind_s, if_pos rfl, if_pos rfl]; exact congrArg some (decide_eq_true (by show (0 : Int) ≤ wrap64 (0 + 0); rw [wrap64_id (by omega) (by omega)]; omega))
  · have hm : m = 2 ∨ m = 5 ∨ ((m = 3 ∨ m = 4) ∧ ten s.toNat = 1) := by
      rcases h with h | h | ⟨h, rfl⟩
      · exact Or.inl h
      · exact Or.inr (Or.inl h)
      · exact Or.inr (Or.inr ⟨h, rfl⟩)
    have ht := ten_pos s.toNat
    rw [dist_ok hb h1 h2, bind_s, dist_ok hb h3 h4, bind_s, dist_ok hb h5 h6, bind_s, if_pos rfl, if_pos rfl]
    have b1 := tri_bd ht h1 h2 hm
    have b2 := tri_bd ht h3 h4 hm
    have b3 := way_tri ht ax ay bx by_ hm
    show some (decide (((way m (ten s.toNat) (ax + bx) (ay + by_) : Nat) : Int) ≤ wrap64 (((way m (ten s.toNat) ax ay : Nat) : Int) + ((way m (ten s.toNat) bx by_ : Nat) : Int)))) = some true
    rw [wrap64_id (by omega) (by omega), decide_eq_true (by omega)]
theorem tri_j1t {m s ax ay bx by_ : Int} : entrepotlaw06_MetricTriangle.j1 1 m s ax ay bx by_ true = some true := rfl
theorem tri_t {m s ax ay bx by_ : Int} : entrepotlaw06_MetricTriangle.j0 2 m s ax ay bx by_ true = some true := by
  simp only [entrepotlaw06_MetricTriangle.j0, if_true, shown6, bind_s]
theorem MetricTriangle (m s ax ay bx by_ : Int) (_ : (Lit.int .i64 m).wf = true) (_ : (Lit.int .i64 s).wf = true) (_ : (Lit.int .i64 ax).wf = true) (_ : (Lit.int .i64 ay).wf = true) (_ : (Lit.int .i64 bx).wf = true) (_ : (Lit.int .i64 by_).wf = true) : ∃ k, entrepotlaw06_MetricTriangle.f k m s ax ay bx by_ = some true := by
  refine ⟨2, ?_⟩
  unfold entrepotlaw06_MetricTriangle.f
  by_cases h1 : far ax
  · rw [near_out h1, bind_s, if_neg (by decide)]; exact tri_t
  rw [near_in h1, bind_s, if_pos rfl]
  by_cases h2 : far ay
  · rw [near_out h2, bind_s, if_neg (by decide)]; exact tri_t
  rw [near_in h2, bind_s, if_pos rfl]
  by_cases h3 : far bx
  · rw [near_out h3, bind_s, if_neg (by decide)]; exact tri_t
  rw [near_in h3, bind_s, if_pos rfl]
  by_cases h4 : far by_
  · rw [near_out h4, bind_s, if_neg (by decide)]; exact tri_t
  rw [near_in h4, bind_s, if_pos rfl]
  have e1 : wrap64 (ax + bx) = ax + bx := by unfold far at *; unfold wrap64; omega
  have e2 : wrap64 (ay + by_) = ay + by_ := by unfold far at *; unfold wrap64; omega
  rw [e1, e2]
  by_cases h5 : far (ax + bx)
  · rw [near_out h5, bind_s, if_neg (by decide)]; exact tri_t
  rw [near_in h5, bind_s, if_pos rfl]
  by_cases h6 : far (ay + by_)
  · rw [near_out h6, bind_s, if_neg (by decide)]; exact tri_t
  rw [near_in h6, bind_s, if_pos rfl, shown6, bind_s]
  show entrepotlaw06_MetricTriangle.j0 2 m s ax ay bx by_ false = some true
  simp only [entrepotlaw06_MetricTriangle.j0]
  rw [if_neg (by decide)]
  by_cases m2 : m = 2
  · rw [if_pos m2]; exact tri_j1 h1 h2 h3 h4 h5 h6 (Or.inl m2)
  rw [if_neg m2]
  by_cases m5 : m = 5
  · rw [if_pos m5]; exact tri_j1 h1 h2 h3 h4 h5 h6 (Or.inr (Or.inl m5))
  rw [if_neg m5]
  by_cases hs : s = 0
  · have hs' : (s != 0) = false := by rw [hs]; rfl
    rw [hs']
    by_cases m3 : m = 3
    · rw [if_pos m3]; exact tri_j1 h1 h2 h3 h4 h5 h6 (Or.inr (Or.inr ⟨Or.inl m3, hs⟩))
    rw [if_neg m3]
    by_cases m4 : m = 4
    · rw [if_pos m4]; exact tri_j1 h1 h2 h3 h4 h5 h6 (Or.inr (Or.inr ⟨Or.inr m4, hs⟩))
    rw [if_neg m4]; exact tri_j1t
  · have hs' : (s != 0) = true := bne_iff_ne.mpr hs
    rw [hs']
    repeat' split
    all_goals exact tri_j1t
end Go.Proofs.YtdpfljkcnlamlaaDoor.Pure
