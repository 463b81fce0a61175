/- A hundred times a number from 0 to 8 * 10^14, divided by ten times as much, has the same root as the number, however it is rounded; of other numbers nothing is asked. -/
import Derived.Test.YtnkhkjdmdjldaaaPxEntrepotlaw05Roottens
import Derived.Test.YtnkhkjdmdjldaaaGShownRoot
namespace Go.Proofs.Ytnkhkjdmdjldaaa.Pure
open Go.RowKit Go.Proofs.Ytnkhkjdmdjldaaa.P Go.Proofs.YtnkhkjdmdjldaaaW.PrintWords Go.Proofs.YtnkhkjdmdjldaaaW.PrintLast

theorem ten_sq (x y n : Nat) : (x * (10 * y)) * (x * (10 * y)) ≤ 100 * n ↔ (x * y) * (x * y) ≤ n := by
  rw [show x * (10 * y) = 10 * (x * y) from by rw [Nat.mul_left_comm]]
  rw [Nat.mul_mul_mul_comm]
  generalize (x * y) * (x * y) = z
  omega
theorem near_tens (n t : Nat) (ht : 1 ≤ t) : near (100 * n) (10 * t) = near n t := by
  refine eq_of_le_iff fun q => ?_
  rw [le_near (by omega), le_near ht, show 4 * (100 * n) = 100 * (4 * n) by omega, ten_sq]
theorem down_tens (n t : Nat) (ht : 1 ≤ t) : down (100 * n) 10 (10 * t) = down n 10 t := by
  refine eq_of_le_iff fun q => ?_
  rw [le_down (by omega), le_down ht, show 10 * 10 * (100 * n) = 100 * (10 * 10 * n) by omega, ten_sq]
theorem down_ten (n t : Nat) (ht : 1 ≤ t) : down n 10 (10 * t) = down n 1 t := by
  refine eq_of_le_iff fun q => ?_
  rw [le_down (by omega), le_down ht, ten_sq, show 1 * 1 * n = n by omega]
theorem ceil_tens (n t : Nat) (ht : 1 ≤ t) : ceil (100 * n) 10 (10 * t) = ceil n 10 t := by
  refine eq_of_ge_iff fun q => ?_
  rw [ceil_le (by omega) (by omega), ceil_le (by omega) ht, show q * (10 * t) = 10 * (q * t) from by rw [Nat.mul_left_comm], Nat.mul_mul_mul_comm]
  generalize q * t * (q * t) = z
  omega

theorem RootTens : entrepotlaw05_RootTens.Pure := by
  intro n d _ hd
  have hd' : 0 ≤ d ∧ d ≤ 65535 := by
    simp only [Lit.wf, Bool.and_eq_true, decide_eq_true_eq] at hd
    exact hd
  refine ⟨1, ?_⟩
  unfold entrepotlaw05_RootTens.f
  obtain ⟨e, rfl⟩ := nat_of hd'.1
  rw [wrap64_id (a := (e : Int)) (by omega) (by omega), show (1 : Int) + (e : Int) = ((1 + e : Nat) : Int) by omega, wrap64_id (by omega) (by omega)]
  have hT : ∀ x y : Int, entrepotlaw05_RootTens.j0 1 x y true = some true := fun x y => by
    simp only [entrepotlaw05_RootTens.j0, if_true, shown_true, bind_s]
  by_cases h0 : n < 0
  · rw [if_pos h0]; exact hT _ _
  · rw [if_neg h0]
    by_cases h1 : n > 800000000000000
    · rw [if_pos h1]; exact hT _ _
    · rw [if_neg h1, shown_true, bind_s]
      obtain ⟨m, rfl⟩ := nat_of (show 0 ≤ n by omega)
      obtain ⟨t, ht⟩ : ∃ t, 1 + e = t := ⟨_, rfl⟩
      rw [ht]
      have ht1 : 1 ≤ t := by omega
      show entrepotlaw05_RootTens.j0 1 (m : Int) (t : Int) false = some true
      simp only [entrepotlaw05_RootTens.j0]
      rw [if_neg (by simp), show (100 : Int) * (m : Int) = ((100 * m : Nat) : Int) by omega, show (10 : Int) * (t : Int) = ((10 * t : Nat) : Int) by omega, wrap64_id (a := ((100 * m : Nat) : Int)) (by omega) (by omega), wrap64_id (a := ((10 * t : Nat) : Int)) (by omega) (by omega),
        near_eq (by omega) (by omega), bind_s, near_eq (by omega) ht1, bind_s, near_tens m t ht1, if_pos rfl,
        show (10 : Int) = ((10 : Nat) : Int) from rfl, down_eq (by omega) (by omega) (by omega), bind_s, down_eq (by omega) (by omega) ht1, bind_s, down_tens m t ht1, if_pos rfl,
        ceil_eq (by omega) (by omega) (by omega) (by omega) (by omega), bind_s, ceil_eq (by omega) (by omega) (by omega) ht1 (by omega), bind_s, ceil_tens m t ht1, if_pos rfl,
        down_eq (by omega) (by omega) (by omega), bind_s, show (1 : Int) = ((1 : Nat) : Int) from rfl, down_eq (by omega) (by omega) ht1, bind_s, down_ten m t ht1, beq_self_eq_true]

end Go.Proofs.Ytnkhkjdmdjldaaa.Pure
