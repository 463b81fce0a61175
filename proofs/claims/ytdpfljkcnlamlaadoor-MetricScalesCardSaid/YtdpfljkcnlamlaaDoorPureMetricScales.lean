/- Ten times as far in a scale of one more is as far. -/
import Derived.Test.YtdpfljkcnlamlaaDoorPxEntrepotlaw06MetricScales
import Derived.Test.YtdpfljkcnlamlaaDoorGMet
namespace Go.Proofs.YtdpfljkcnlamlaaDoor.Pure
open Go.RowKit Go.Proofs.YtdpfljkcnlamlaaDoor.P Go.Proofs.YtdpfljkcnlamlaaDoorW.PrintWords Go.Proofs.YtdpfljkcnlamlaaDoorW.PrintLast
open DistWalk
theorem ten_sq (x y n : Nat) : (x * (10 * y)) * (x * (10 * y)) ≤ 100 * n ↔ (x * y) * (x * y) ≤ n := by
  rw [show x * (10 * y) = 10 * (x * y) from by rw [Nat.mul_left_comm]]
  rw [Nat.mul_mul_mul_comm]
  generalize (x * y) * (x * y) = z
  omega
theorem near_tens (n t : Nat) (ht : 1 ≤ t) : near (100 * n) (10 * t) = near n t := by
  refine eq_of_le_iff fun q => ?_
  rw [le_near (by omega), le_near ht, show 4 * (100 * n) = 100 * (4 * n) by omega, ten_sq]
theorem down_tens (n t : Nat) (ht : 1 ≤ t) : down (100 * n) 10 (10 * t) = down n 10 t := by
  refine eq_of_le_iff fun q => ?_
  rw [le_down (by omega), le_down ht, show 10 * 10 * (100 * n) = 100 * (10 * 10 * n) by omega, ten_sq]
theorem ceil_tens (n k t : Nat) (hk : 1 ≤ k) (ht : 1 ≤ t) : ceil (100 * n) k (10 * t) = ceil n k t := by
  refine eq_of_ge_iff fun q => ?_
  rw [ceil_le hk (by omega), ceil_le hk ht, show q * (10 * t) = 10 * (q * t) from by rw [Nat.mul_left_comm], Nat.mul_mul_mul_comm]
  generalize q * t * (q * t) = z
  rw [show 10 * 10 * z * k = 100 * (z * k) by rw [Nat.mul_assoc]]
  omega
theorem nst_tens (a t : Nat) (h : t = 1 ∨ t % 2 = 0) (ht : 1 ≤ t) : nst (10 * a) (10 * t) = nst a t := by
  unfold nst
  rcases h with rfl | h
  · omega
  · rw [show 10 * a + 10 * t / 2 = 10 * (a + t / 2) by omega, Nat.mul_div_mul_left _ _ (by omega)]
theorem ten_even (k : Nat) : ten k = 1 ∨ ten k % 2 = 0 := by
  cases k with
  | zero => left; rfl
  | succ k => right; rw [ten_succ]; omega
theorem sq2_ten (x y : Int) : sq2 (10 * x) (10 * y) = 100 * sq2 x y := by
  unfold sq2
  have h : ∀ a : Nat, 10 * a * (10 * a) = 100 * (a * a) := fun a => by rw [Nat.mul_mul_mul_comm]
  rw [Int.natAbs_mul, Int.natAbs_mul]
  show 10 * x.natAbs * (10 * x.natAbs) + 10 * y.natAbs * (10 * y.natAbs) = _
  rw [h, h, Nat.mul_add]
theorem way_tens (m : Int) (k : Nat) (x y : Int) : way m (ten (k + 1)) (10 * x) (10 * y) = way m (ten k) x y := by
  have ht := ten_pos k
  have he := ten_even k
  rw [show ten (k + 1) = 10 * ten k by rw [ten_succ, Nat.mul_comm]]
  unfold way
  rw [sq2_ten, near_tens _ _ ht, ceil_tens _ _ _ (by omega) ht, ceil_tens _ _ _ (by omega) ht, down_tens _ _ ht, Int.natAbs_mul, Int.natAbs_mul]
  show (if m = 1 then _ else if m = 2 then _ else if m = 3 then nst (10 * x.natAbs + 10 * y.natAbs) _ else if m = 4 then nst (max (10 * x.natAbs) (10 * y.natAbs)) _ else _) = _
  rw [← Nat.mul_add, nst_tens _ _ he ht, show max (10 * x.natAbs) (10 * y.natAbs) = 10 * max x.natAbs y.natAbs by omega, nst_tens _ _ he ht]
theorem MetricScales (m a1 a2 a3 : Int) (_ : (Lit.int .i64 m).wf = true) (w1 : (Lit.int .u8 a1).wf = true) (w2 : (Lit.int .i32 a2).wf = true) (w3 : (Lit.int .i32 a3).wf = true) : entrepotlaw06_MetricScales.f m a1 a2 a3 = some true := by
  have b1 : 0 ≤ a1 ∧ a1 ≤ 255 := by simp only [Lit.wf, Bool.and_eq_true, decide_eq_true_eq] at w1; exact w1
  have b2 : -2147483648 ≤ a2 ∧ a2 ≤ 2147483647 := by simp only [Lit.wf, Bool.and_eq_true, decide_eq_true_eq] at w2; exact w2
  have b3 : -2147483648 ≤ a3 ∧ a3 ≤ 2147483647 := by simp only [Lit.wf, Bool.and_eq_true, decide_eq_true_eq] at w3; exact w3
  unfold entrepotlaw06_MetricScales.f
  rw [wrap64_id (a := a1) (by omega) (by omega), wrap64_id (a := a2) (by omega) (by omega), wrap64_id (a := a3) (by omega) (by omega)]
  have c1 : 0 ≤ a1.tmod 6 ∧ a1.tmod 6 < 6 := ⟨Int.tmod_nonneg _ b1.1, Int.tmod_lt_of_pos _ (by omega)⟩
  have c2 : a2.tmod 20000001 < 20000001 ∧ -20000001 < a2.tmod 20000001 := ⟨Int.tmod_lt_of_pos _ (by omega), by have := Int.lt_tmod_of_pos a2 (b := 20000001) (by omega); omega⟩
  have c3 : a3.tmod 20000001 < 20000001 ∧ -20000001 < a3.tmod 20000001 := ⟨Int.tmod_lt_of_pos _ (by omega), by have := Int.lt_tmod_of_pos a3 (b := 20000001) (by omega); omega⟩
  generalize a1.tmod 6 = s at *
  generalize a2.tmod 20000001 = x at *
  generalize a3.tmod 20000001 = y at *
  rw [wrap64_id (a := s + 1) (by omega) (by omega), wrap64_id (a := 10 * x) (by omega) (by omega), wrap64_id (a := 10 * y) (by omega) (by omega)]
  by_cases hb : badK m s
  · have hb' : badK m (s + 1) := by unfold badK at *; omega
    rw [dist_bad _ _ hb, bind_s, dist_bad _ _ hb', bind_s, if_pos rfl, if_pos rfl, shown6, bind_s]
  · have hb' : ¬ badK m (s + 1) := by unfold badK at *; omega
    rw [dist_ok hb (by unfold far; omega) (by unfold far; omega), bind_s, dist_ok hb' (by unfold far; omega) (by unfold far; omega), bind_s,
      show (s + 1).toNat = s.toNat + 1 by omega, way_tens, if_pos rfl, if_pos rfl, shown6, bind_s]
end Go.Proofs.YtdpfljkcnlamlaaDoor.Pure
