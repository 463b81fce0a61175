/- Whole square roots: plain lemmas on numbers, no program. -/
import Derived.WalkKit
namespace Go.Proofs.YtdpfljkcnlamlaaDoor

/-- The greatest number whose square is n at most. -/
def isq : Nat → Nat
  | 0 => 0
  | n + 1 => if (isq n + 1) * (isq n + 1) ≤ n + 1 then isq n + 1 else isq n

theorem isq_both (n : Nat) : isq n * isq n ≤ n ∧ n < (isq n + 1) * (isq n + 1) := by
  induction n with
  | zero => simp [isq]
  | succ n ih =>
    obtain ⟨h1, h2⟩ := ih
    unfold isq
    split
    · rename_i h
      refine ⟨h, ?_⟩
      have e : (isq n + 1 + 1) * (isq n + 1 + 1) = (isq n + 1) * (isq n + 1) + 2 * (isq n + 1) + 1 := by
        simp only [Nat.add_mul, Nat.mul_add, Nat.mul_one, Nat.one_mul]; omega
      omega
    · rename_i h
      exact ⟨by omega, by omega⟩
theorem isq_le (n : Nat) : isq n * isq n ≤ n := (isq_both n).1
theorem isq_lt (n : Nat) : n < (isq n + 1) * (isq n + 1) := (isq_both n).2

theorem sq_mono {a b : Nat} (h : a ≤ b) : a * a ≤ b * b := Nat.mul_le_mul h h
/-- A number whose square is n at most is the root at most. -/
theorem le_isq {n q : Nat} (h : q * q ≤ n) : q ≤ isq n := by
  refine Nat.le_of_not_lt fun hlt => ?_
  have := sq_mono (show isq n + 1 ≤ q from hlt)
  have := isq_lt n
  omega
theorem isq_le_of {n q : Nat} (h : n < (q + 1) * (q + 1)) : isq n ≤ q := by
  refine Nat.le_of_not_lt fun hlt => ?_
  have := sq_mono (show q + 1 ≤ isq n from hlt)
  have := isq_le n
  omega
theorem isq_eq {n q : Nat} (h1 : q * q ≤ n) (h2 : n < (q + 1) * (q + 1)) : isq n = q := Nat.le_antisymm (isq_le_of h2) (le_isq h1)
theorem isq_mono {a b : Nat} (h : a ≤ b) : isq a ≤ isq b := le_isq (Nat.le_trans (isq_le a) h)
theorem isq_sq (a : Nat) : isq (a * a) = a := isq_eq (Nat.le_refl _) (by simp only [Nat.add_mul, Nat.mul_add, Nat.mul_one, Nat.one_mul]; omega)

/-- One guess on: not below the root. -/
theorem guess_ge (n x : Nat) (hx : 1 ≤ x) : isq n ≤ (x + n / x) / 2 := by
  rw [Nat.le_div_iff_mul_le (by omega)]
  generalize hs : isq n = s
  have h1 : s * s ≤ n := by rw [← hs]; exact isq_le n
  by_cases h : 2 * s ≤ x
  · have := Nat.zero_le (n / x); generalize n / x = y at *; omega
  · have h2 : (2 * s - x) * x ≤ n := by
      refine Nat.le_trans ?_ h1
      obtain ⟨d, hd⟩ : ∃ d, 2 * s = x + d := ⟨2 * s - x, by omega⟩
      rw [show 2 * s - x = d from by omega]
      by_cases hc : d ≤ x
      · obtain ⟨e, rfl⟩ : ∃ e, x = d + e := ⟨x - d, by omega⟩
        obtain ⟨t, rfl⟩ : ∃ t, e = 2 * t := ⟨s - d, by omega⟩
        obtain rfl : s = d + t := by omega
        simp only [Nat.add_mul, Nat.mul_add]
        have : d * (2 * t) = d * t + t * d := by rw [Nat.mul_left_comm, Nat.mul_comm t d]; omega
        omega
      · obtain ⟨e, rfl⟩ : ∃ e, d = x + e := ⟨d - x, by omega⟩
        obtain ⟨t, rfl⟩ : ∃ t, e = 2 * t := ⟨s - x, by omega⟩
        obtain rfl : s = x + t := by omega
        simp only [Nat.add_mul, Nat.mul_add]
        have : 2 * t * x = x * t + t * x := by rw [Nat.mul_assoc, Nat.mul_comm x t]; omega
        omega
    have h3 : 2 * s - x ≤ n / x := (Nat.le_div_iff_mul_le (by omega)).2 h2
    omega
/-- Where guesses fall no more, the root is reached. -/
theorem guess_end {n x : Nat} (hx : 1 ≤ x) (hg : isq n ≤ x) (he : x ≤ (x + n / x) / 2) : isq n = x := by
  have h1 : x ≤ n / x := by omega
  have h2 : x * x ≤ n := (Nat.le_div_iff_mul_le (by omega)).1 h1
  exact Nat.le_antisymm hg (le_isq h2)
theorem guess_start {n L : Nat} (h : n < 2 ^ L) : isq n ≤ 2 ^ ((L + 1) / 2) := by
  refine isq_le_of (Nat.lt_of_lt_of_le h ?_)
  have h1 : 2 ^ L ≤ 2 ^ ((L + 1) / 2 + (L + 1) / 2) := Nat.pow_le_pow_right (by omega) (by omega)
  rw [Nat.pow_add] at h1
  have := sq_mono (show 2 ^ ((L + 1) / 2) ≤ 2 ^ ((L + 1) / 2) + 1 from by omega)
  omega
end Go.Proofs.YtdpfljkcnlamlaaDoor
