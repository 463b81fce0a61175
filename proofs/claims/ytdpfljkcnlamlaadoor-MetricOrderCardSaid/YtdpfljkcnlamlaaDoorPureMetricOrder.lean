/- The greatest side is no longer than the straight way, and that no longer than both sides; rounded up it is one more at most; in tenths it is as far, but for five; a tenth of its square's root is less. -/
import Derived.Test.YtdpfljkcnlamlaaDoorPxEntrepotlaw06MetricOrder
import Derived.Test.YtdpfljkcnlamlaaDoorGMet
namespace Go.Proofs.YtdpfljkcnlamlaaDoor.Pure
open Go.RowKit Go.Proofs.YtdpfljkcnlamlaaDoor.P Go.Proofs.YtdpfljkcnlamlaaDoorW.PrintWords Go.Proofs.YtdpfljkcnlamlaaDoorW.PrintLast
open DistWalk
/-- n is the length that is nearest: half a step below it is at most the root, half a step above it is more. -/
theorem near_bounds {n t : Nat} (ht : 1 ≤ t) : (near n t = 0 ∨ ((2 * near n t - 1) * t) * ((2 * near n t - 1) * t) ≤ 4 * n) ∧ 4 * n < ((2 * near n t + 1) * t) * ((2 * near n t + 1) * t) := by
  refine ⟨(le_near ht).1 (Nat.le_refl _), ?_⟩
  have h := mt (le_near (n := n) (q := near n t + 1) ht).2 (by omega)
  rw [show 2 * (near n t + 1) - 1 = 2 * near n t + 1 by omega] at h
  omega
theorem order_plain {M S q t : Nat} (ht : 1 ≤ t) (h1 : M * M ≤ q) (h2 : q ≤ S * S) :
    nst M t ≤ near q t ∧ near q t ≤ nst S t ∧ near q t ≤ ceil q 1 t ∧ ceil q 1 t ≤ near q t + 1 ∧ ceil q 10 t ≤ ceil q 1 t ∧ 10 * near q t ≤ down q 10 t + 5 ∧ down q 10 t ≤ 10 * near q t + 4 := by
  obtain ⟨b1, b2⟩ := near_bounds (n := q) ht
  have fourM : ∀ a : Nat, 4 * (a * a) = (2 * a) * (2 * a) := fun a => by rw [Nat.mul_mul_mul_comm]
  refine ⟨?_, ?_, ?_, ?_, ?_, ?_, ?_⟩
  · rw [le_near ht]
    rcases Nat.eq_zero_or_pos (nst M t) with h | h
    · exact Or.inl h
    · right
      have h3 := (le_nst (a := M) ht).1 (Nat.le_refl _)
      generalize nst M t = x at *
      have h4 : (2 * x - 1) * t ≤ 2 * M := by
        rw [Nat.sub_mul, Nat.mul_assoc]; omega
      have h5 := sq_le_iff.2 h4
      rw [← fourM] at h5
      omega
  · rw [le_nst ht]
    generalize near q t = x at *
    rcases b1 with h | h
    · rw [h]; omega
    · have h3 : (2 * x - 1) * t ≤ 2 * S := by
        refine sq_le_iff.1 ?_
        rw [← fourM]; omega
      rw [Nat.sub_mul, Nat.mul_assoc] at h3
      omega
  · have h3 := (ceil_le (n := q) (k := 1) (Nat.le_refl 1) ht).1 (Nat.le_refl _)
    generalize near q t = x at *
    generalize ceil q 1 t = c at *
    rcases b1 with h | h
    · omega
    · have h4 : (2 * x - 1) * t ≤ 2 * (c * t) := by
        refine sq_le_iff.1 ?_
        rw [← fourM]; omega
      rw [← Nat.mul_assoc] at h4
      have h5 := Nat.le_of_mul_le_mul_right h4 (by omega)
      omega
  · rw [ceil_le (Nat.le_refl 1) ht]
    generalize near q t = x at *
    have h3 : (2 * x + 1) * t ≤ 2 * ((x + 1) * t) := by
      rw [← Nat.mul_assoc]; exact Nat.mul_le_mul_right _ (by omega)
    have h4 := sq_le_iff.2 h3
    rw [← fourM] at h4
    omega
  · rw [ceil_le (by omega) ht]
    have h3 := (ceil_le (n := q) (k := 1) (Nat.le_refl 1) ht).1 (Nat.le_refl _)
    omega
  · generalize near q t = x at *
    have h3 : 10 * x - 5 ≤ down q 10 t := by
      rw [le_down ht]
      rcases b1 with h | h
      · rw [h]; omega
      · have e : (10 * x - 5) * t = 5 * ((2 * x - 1) * t) := by rw [← Nat.mul_assoc]; congr 1; omega
        rw [e, Nat.mul_mul_mul_comm]
        omega
    omega
  · generalize near q t = x at *
    have h3 : ¬ (10 * x + 5 ≤ down q 10 t) := by
      rw [le_down ht]
      have e : (10 * x + 5) * t = 5 * ((2 * x + 1) * t) := by rw [← Nat.mul_assoc]; congr 1; omega
      rw [e, Nat.mul_mul_mul_comm]
      omega
    omega
theorem sq2_sides (x y : Int) : max x.natAbs y.natAbs * max x.natAbs y.natAbs ≤ sq2 x y ∧ sq2 x y ≤ (x.natAbs + y.natAbs) * (x.natAbs + y.natAbs) := by
  unfold sq2
  generalize x.natAbs = a
  generalize y.natAbs = b
  constructor
  · rcases (by omega : max a b = a ∨ max a b = b) with h | h <;> rw [h] <;> omega
  · have : (a + b) * (a + b) = a * a + b * b + 2 * (a * b) := by grind
    omega
theorem order_bd {S t : Nat} (ht : 1 ≤ t) (h : S ≤ 400000000) : nst S t ≤ 400000000 := by
  refine Nat.le_of_not_lt fun hn => ?_
  have h1 := (le_nst (a := S) (q := 400000001) ht).1 (by omega)
  have h2 : 400000001 * t = t + 400000000 * t := by omega
  have h3 : 400000000 * 1 ≤ 400000000 * t := Nat.mul_le_mul_left _ ht
  omega
theorem order_t {s x y : Int} : entrepotlaw06_MetricOrder.j0 1 x y s true = some true := by
  simp only [entrepotlaw06_MetricOrder.j0, if_true, shown6, bind_s]
theorem MetricOrder (a0 x y : Int) (w0 : (Lit.int .u8 a0).wf = true) (_ : (Lit.int .i64 x).wf = true) (_ : (Lit.int .i64 y).wf = true) : ∃ k, entrepotlaw06_MetricOrder.f k a0 x y = some true := by
  refine ⟨1, ?_⟩
  have b1 : 0 ≤ a0 ∧ a0 ≤ 255 := by simp only [Lit.wf, Bool.and_eq_true, decide_eq_true_eq] at w0; exact w0
  unfold entrepotlaw06_MetricOrder.f
  rw [wrap64_id (a := a0) (by omega) (by omega)]
  have c1 : 0 ≤ a0.tmod 7 ∧ a0.tmod 7 < 7 := ⟨Int.tmod_nonneg _ b1.1, Int.tmod_lt_of_pos _ (by omega)⟩
  generalize a0.tmod 7 = s at *
  by_cases h1 : far x
  · rw [near_out h1, bind_s, if_neg (by decide)]; exact order_t
  rw [near_in h1, bind_s, if_pos rfl]
  by_cases h2 : far y
  · rw [near_out h2, bind_s, if_neg (by decide)]; exact order_t
  rw [near_in h2, bind_s, if_pos rfl, shown6, bind_s]
  show entrepotlaw06_MetricOrder.j0 1 x y s false = some true
  simp only [entrepotlaw06_MetricOrder.j0]
  have hb : ∀ m : Int, 1 ≤ m → m ≤ 6 → ¬ badK m s := fun m h3 h4 => by unfold badK; omega
  rw [if_neg (by decide), dist_ok (hb 1 (by omega) (by omega)) h1 h2, bind_s, dist_ok (hb 2 (by omega) (by omega)) h1 h2, bind_s, dist_ok (hb 3 (by omega) (by omega)) h1 h2, bind_s, dist_ok (hb 4 (by omega) (by omega)) h1 h2, bind_s,
    dist_ok (hb 5 (by omega) (by omega)) h1 h2, bind_s, dist_ok (hb 6 (by omega) (by omega)) h1 h2, bind_s]
  have ht := ten_pos s.toNat
  obtain ⟨q1, q2⟩ := sq2_sides x y
  obtain ⟨o1, o2, o3, o4, o5, o6, o7⟩ := order_plain ht q1 q2
  have o8 := order_bd ht (S := x.natAbs + y.natAbs) (by unfold far at h1 h2; omega)
  have e1 : way 1 (ten s.toNat) x y = near (sq2 x y) (ten s.toNat) := by unfold way; rw [if_pos rfl]
  have e2 : way 2 (ten s.toNat) x y = ceil (sq2 x y) 1 (ten s.toNat) := by unfold way; rw [if_neg (by decide), if_pos rfl]
  have e3 : way 3 (ten s.toNat) x y = nst (x.natAbs + y.natAbs) (ten s.toNat) := by unfold way; rw [if_neg (by decide), if_neg (by decide), if_pos rfl]
  have e4 : way 4 (ten s.toNat) x y = nst (max x.natAbs y.natAbs) (ten s.toNat) := by unfold way; rw [if_neg (by decide), if_neg (by decide), if_neg (by decide), if_pos rfl]
  have e5 : way 5 (ten s.toNat) x y = ceil (sq2 x y) 10 (ten s.toNat) := by unfold way; rw [if_neg (by decide), if_neg (by decide), if_neg (by decide), if_neg (by decide), if_pos rfl]
  have e6 : way 6 (ten s.toNat) x y = down (sq2 x y) 10 (ten s.toNat) := by unfold way; rw [if_neg (by decide), if_neg (by decide), if_neg (by decide), if_neg (by decide), if_neg (by decide)]
  rw [e1, e2, e3, e4, e5, e6]
  generalize near (sq2 x y) (ten s.toNat) = n at *
  generalize ceil (sq2 x y) 1 (ten s.toNat) = c at *
  generalize ceil (sq2 x y) 10 (ten s.toNat) = a at *
  generalize down (sq2 x y) 10 (ten s.toNat) = d at *
  generalize nst (max x.natAbs y.natAbs) (ten s.toNat) = u at *
  generalize nst (x.natAbs + y.natAbs) (ten s.toNat) = v at *
  iterate 6 rw [if_pos rfl]
  simp only []
  rw [wrap64_id (a := (n : Int) + 1) (by omega) (by omega), wrap64_id (a := 10 * (n : Int)) (by omega) (by omega), wrap64_id (a := 10 * (n : Int) - 5) (by omega) (by omega), wrap64_id (a := 10 * (n : Int) + 4) (by omega) (by omega),
    if_pos (by omega), if_pos (by omega), if_pos (by omega), if_pos (by omega), if_pos (by omega), if_pos (by omega), decide_eq_true (by omega)]
end Go.Proofs.YtdpfljkcnlamlaaDoor.Pure
