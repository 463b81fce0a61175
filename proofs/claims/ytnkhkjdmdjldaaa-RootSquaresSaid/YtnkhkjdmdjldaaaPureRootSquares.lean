/- The root of a square is its side, in whatever way it is rounded; so is that of a square of some times the side, divided by as many: for every side below 10^6 and every divisor from 1 to 256 whose square is 8 * 10^16 at most. -/
import Derived.Test.YtnkhkjdmdjldaaaPxEntrepotlaw05Rootsquares
import Derived.Test.YtnkhkjdmdjldaaaGShownRoot
namespace Go.Proofs.Ytnkhkjdmdjldaaa.Pure
open Go.RowKit Go.Proofs.Ytnkhkjdmdjldaaa.P Go.Proofs.YtnkhkjdmdjldaaaW.PrintWords Go.Proofs.YtnkhkjdmdjldaaaW.PrintLast

theorem near_sq (a t : Nat) (ht : 1 ≤ t) : near ((a * t) * (a * t)) t = a := by
  unfold near
  have e : 4 * ((a * t) * (a * t)) = (2 * (a * t)) * (2 * (a * t)) := by generalize a * t = x; rw [Nat.mul_mul_mul_comm 2 x 2 x]
  rw [e, isq_sq, ← Nat.mul_assoc, Nat.mul_div_cancel _ (by omega)]
  omega
theorem down_sq (a t m : Nat) (ht : 1 ≤ t) : down ((a * t) * (a * t)) m t = m * a := by
  unfold down
  rw [show m * m * ((a * t) * (a * t)) = (m * (a * t)) * (m * (a * t)) by generalize a * t = x; rw [Nat.mul_mul_mul_comm m x m x], isq_sq, ← Nat.mul_assoc, Nat.mul_div_cancel _ (by omega)]
theorem ceil_sq (a t : Nat) (ht : 1 ≤ t) : ceil ((a * t) * (a * t)) 1 t = a := by
  refine eq_of_ge_iff fun q => ?_
  rw [ceil_le (by omega) ht, Nat.mul_one]
  constructor
  · intro h
    refine Nat.le_of_not_lt fun hlt => ?_
    have h1 : q * t < a * t := Nat.mul_lt_mul_of_pos_right hlt (by omega)
    generalize q * t = x at *
    generalize a * t = y at *
    have h2 := sq_mono (show x + 1 ≤ y from h1)
    have h3 : (x + 1) * (x + 1) = x * x + 2 * x + 1 := by simp only [Nat.add_mul, Nat.mul_add, Nat.mul_one, Nat.one_mul]; omega
    omega
  · intro h; exact sq_mono (Nat.mul_le_mul_right _ h)

theorem RootSquares : entrepotlaw05_RootSquares.Pure := by
  intro q d hq hd
  have hq' : 0 ≤ q ∧ q ≤ 4294967295 := by
    simp only [Lit.wf, Bool.and_eq_true, decide_eq_true_eq] at hq
    exact hq
  have hd' : 0 ≤ d ∧ d ≤ 255 := by
    simp only [Lit.wf, Bool.and_eq_true, decide_eq_true_eq] at hd
    exact hd
  refine ⟨1, ?_⟩
  unfold entrepotlaw05_RootSquares.f
  obtain ⟨e, rfl⟩ := nat_of hd'.1
  obtain ⟨p, rfl⟩ := nat_of hq'.1
  have hT : ∀ x y z : Int, entrepotlaw05_RootSquares.j0 1 x y z true = some true := fun x y z => by
    simp only [entrepotlaw05_RootSquares.j0, if_true, shown_true, bind_s]
  rw [wrap64_id (a := (p : Int)) (by omega) (by omega), wrap64_id (a := (e : Int)) (by omega) (by omega), show (1 : Int) + (e : Int) = ((1 + e : Nat) : Int) by omega, wrap64_id (a := ((1 + e : Nat) : Int)) (by omega) (by omega), Int.tmod_eq_emod_of_nonneg (by omega)]
  obtain ⟨a, ha⟩ := nat_of (a := (p : Int) % 1000000) (by omega)
  obtain ⟨t, ht⟩ : ∃ t, 1 + e = t := ⟨_, rfl⟩
  rw [ha, ht]
  have ha1 : a ≤ 1000000 := by omega
  have ht1 : 1 ≤ t := by omega
  have ht2 : t ≤ 256 := by omega
  clear ha ht hq' hd' hq hd
  have m1 := Nat.mul_le_mul ha1 ha1
  have m2 := Nat.mul_le_mul m1 ht2
  have m3 := Nat.mul_le_mul m2 ht2
  have e1 : (a : Int) * (a : Int) = ((a * a : Nat) : Int) := (Int.natCast_mul _ _).symm
  have e2 : ((a * a : Nat) : Int) * (t : Int) = ((a * a * t : Nat) : Int) := (Int.natCast_mul _ _).symm
  have e3 : ((a * a * t : Nat) : Int) * (t : Int) = ((a * a * t * t : Nat) : Int) := (Int.natCast_mul _ _).symm
  have e4 : a * a * t * t = (a * t) * (a * t) := by rw [Nat.mul_mul_mul_comm, Nat.mul_assoc (a * a)]
  rw [e1, wrap64_id (a := ((a * a : Nat) : Int)) (by omega) (by omega), e2, wrap64_id (a := ((a * a * t : Nat) : Int)) (by omega) (by omega), e3, wrap64_id (a := ((a * a * t * t : Nat) : Int)) (by omega) (by omega)]
  by_cases h1 : ((a * a * t * t : Nat) : Int) > 80000000000000000
  · rw [if_pos h1]; exact hT _ _ _
  · rw [if_neg h1, shown_true, bind_s]
    show entrepotlaw05_RootSquares.j0 1 (a : Int) (t : Int) ((a * a * t * t : Nat) : Int) false = some true
    simp only [entrepotlaw05_RootSquares.j0]
    rw [if_neg (by simp), e1, wrap64_id (a := ((a * a : Nat) : Int)) (by omega) (by omega), floor_eq (by omega), bind_s, isq_sq, if_pos rfl]
    have h2 : a * t ≤ 256000000 := Nat.mul_le_mul ha1 ht2
    have e5 : (a : Int) * (t : Int) = ((a * t : Nat) : Int) := (Int.natCast_mul _ _).symm
    rw [e5, wrap64_id (a := ((a * t : Nat) : Int)) (by omega) (by omega)]
    rw [e4] at h1 ⊢
    have c1 := near_sq a t ht1
    have c2 := down_sq a t 1 ht1
    have c3 := ceil_sq a t ht1
    have c4 := down_sq a t 10 ht1
    have c5 := isq_sq (a * t)
    generalize a * t * (a * t) = n at *
    rw [near_eq (by omega) ht1, bind_s, c1, if_pos rfl, show (1 : Int) = ((1 : Nat) : Int) from rfl, down_eq (by omega) (by omega) ht1, bind_s, c2, if_pos (by omega), ceil_eq (by omega) (by omega) (by omega) ht1 (by omega), bind_s, c3, if_pos rfl,
      show (10 : Int) = ((10 : Nat) : Int) from rfl, down_eq (by omega) (by omega) ht1, bind_s, c4, wrap64_id (by omega) (by omega), if_pos (by omega), floor_eq (by omega), bind_s, c5, beq_self_eq_true]

end Go.Proofs.Ytnkhkjdmdjldaaa.Pure
