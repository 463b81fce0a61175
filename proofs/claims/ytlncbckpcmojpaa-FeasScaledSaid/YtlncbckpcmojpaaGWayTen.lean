/- Ten times as far in a scale of one more is as far: plain lemmas on roots. -/
import Derived.Test.YtlncbckpcmojpaaGDist
namespace Go.Proofs.Ytlncbckpcmojpaa.WayTen
open Go.RowKit Go.Proofs.Ytlncbckpcmojpaa.P Go.Proofs.YtlncbckpcmojpaaW.PrintWords Go.Proofs.YtlncbckpcmojpaaW.PrintLast
open DistWalk
theorem ten_sq (x y n : Nat) : (x * (10 * y)) * (x * (10 * y)) ≤ 100 * n ↔ (x * y) * (x * y) ≤ n := by
  rw [show x * (10 * y) = 10 * (x * y) from by rw [Nat.mul_left_comm]]
  rw [Nat.mul_mul_mul_comm]
  generalize (x * y) * (x * y) = z
  omega
theorem near_tens (n t : Nat) (ht : 1 ≤ t) : near (100 * n) (10 * t) = near n t := by
  refine eq_of_le_iff fun q => ?_
  rw [le_near (by omega), le_near ht, show 4 * (100 * n) = 100 * (4 * n) by omega, ten_sq]
theorem down_tens (n t : Nat) (ht : 1 ≤ t) : down (100 * n) 10 (10 * t) = down n 10 t := by
  refine eq_of_le_iff fun q => ?_
  rw [le_down (by omega), le_down ht, show 10 * 10 * (100 * n) = 100 * (10 * 10 * n) by omega, ten_sq]
theorem ceil_tens (n k t : Nat) (hk : 1 ≤ k) (ht : 1 ≤ t) : ceil (100 * n) k (10 * t) = ceil n k t := by
  refine eq_of_ge_iff fun q => ?_
  rw [ceil_le hk (by omega), ceil_le hk ht, show q * (10 * t) = 10 * (q * t) from by rw [Nat.mul_left_comm], Nat.mul_mul_mul_comm]
  generalize q * t * (q * t) = z
  rw [show 10 * 10 * z * k = 100 * (z * k) by rw [Nat.mul_assoc]]
  omega
theorem nst_tens (a t : Nat) (h : t = 1 ∨ t % 2 = 0) (ht : 1 ≤ t) : nst (10 * a) (10 * t) = nst a t := by
  unfold nst
  rcases h with rfl | h
  · omega
  · rw [show 10 * a + 10 * t / 2 = 10 * (a + t / 2) by omega, Nat.mul_div_mul_left _ _ (by omega)]
theorem ten_even (k : Nat) : ten k = 1 ∨ ten k % 2 = 0 := by
  cases k with
  | zero => left; rfl
  | succ k => right; rw [ten_succ]; omega
theorem sq2_ten (x y : Int) : sq2 (10 * x) (10 * y) = 100 * sq2 x y := by
  unfold sq2
  have h : ∀ a : Nat, 10 * a * (10 * a) = 100 * (a * a) := fun a => by rw [Nat.mul_mul_mul_comm]
  rw [Int.natAbs_mul, Int.natAbs_mul]
  show 10 * x.natAbs * (10 * x.natAbs) + 10 * y.natAbs * (10 * y.natAbs) = _
  rw [h, h, Nat.mul_add]
theorem way_tens (m : Int) (k : Nat) (x y : Int) : way m (ten (k + 1)) (10 * x) (10 * y) = way m (ten k) x y := by
  have ht : 1 ≤ ten k := Nat.pow_pos (by omega)
  have he := ten_even k
  rw [show ten (k + 1) = 10 * ten k by rw [ten_succ, Nat.mul_comm]]
  unfold way
  rw [sq2_ten, near_tens _ _ ht, ceil_tens _ _ _ (by omega) ht, ceil_tens _ _ _ (by omega) ht, down_tens _ _ ht, Int.natAbs_mul, Int.natAbs_mul]
  show (if m = 1 then _ else if m = 2 then _ else if m = 3 then nst (10 * x.natAbs + 10 * y.natAbs) _ else if m = 4 then nst (max (10 * x.natAbs) (10 * y.natAbs)) _ else _) = _
  rw [← Nat.mul_add, nst_tens _ _ he ht, show max (10 * x.natAbs) (10 * y.natAbs) = 10 * max x.natAbs y.natAbs by omega, nst_tens _ _ he ht]
theorem dist_ok {m s x y : Int} (h : ¬ (m ≤ 0 ∨ 6 < m ∨ s < 0 ∨ 6 < s)) (hx : ¬ far x) (hy : ¬ far y) : metric_Dist.f m s x y = some ((way m (ten s.toNat) x y : Int), 0) := by
  unfold metric_Dist.f; exact (if_neg h).trans (if_neg (by rintro (h | h); exact hx h; exact hy h))
end Go.Proofs.Ytlncbckpcmojpaa.WayTen
