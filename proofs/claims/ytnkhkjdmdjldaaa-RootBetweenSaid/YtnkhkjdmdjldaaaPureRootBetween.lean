/- Of every number from 0 to 8 * 10^16 and every divisor from 1 to 10^6, the root rounded down is the nearest one at most, that is at most the one rounded up, and this is one more than the first at most; of others nothing is asked. -/
import Derived.Test.YtnkhkjdmdjldaaaPxEntrepotlaw05Rootbetween
import Derived.Test.YtnkhkjdmdjldaaaGShownRoot
namespace Go.Proofs.Ytnkhkjdmdjldaaa.Pure
open Go.RowKit Go.Proofs.Ytnkhkjdmdjldaaa.P Go.Proofs.YtnkhkjdmdjldaaaW.PrintWords Go.Proofs.YtnkhkjdmdjldaaaW.PrintLast

theorem between (n d : Nat) (hd : 1 ≤ d) : down n 1 d ≤ near n d ∧ near n d ≤ ceil n 1 d ∧ ceil n 1 d ≤ down n 1 d + 1 := by
  refine ⟨?_, ?_, ?_⟩
  · rw [le_near hd]
    have h := (le_down (n := n) (m := 1) hd).1 (Nat.le_refl _)
    generalize down n 1 d = a at *
    by_cases h0 : a = 0
    · exact .inl h0
    · right
      have h1 : (2 * a - 1) * d ≤ 2 * (a * d) := by rw [← Nat.mul_assoc]; exact Nat.mul_le_mul_right d (by omega)
      have h2 := sq_mono h1
      have h3 : 2 * (a * d) * (2 * (a * d)) = 4 * ((a * d) * (a * d)) := by rw [Nat.mul_mul_mul_comm]
      omega
  · refine Nat.le_of_not_lt fun hlt => ?_
    have h := (ceil_le (n := n) (k := 1) (d := d) (q := ceil n 1 d) (by omega) hd).1 (Nat.le_refl _)
    generalize ceil n 1 d = c at *
    rcases (le_near (n := n) (d := d) (q := c + 1) hd).1 hlt with h0 | h0
    · omega
    · have h1 : 2 * (c * d) + 1 ≤ (2 * (c + 1) - 1) * d := by
        have : (2 * (c + 1) - 1) * d = 2 * (c * d) + d := by
          rw [show 2 * (c + 1) - 1 = 2 * c + 1 by omega, Nat.add_mul, Nat.mul_assoc]; omega
        omega
      have h2 := sq_mono h1
      have h3 : (2 * (c * d) + 1) * (2 * (c * d) + 1) = 4 * ((c * d) * (c * d)) + 4 * (c * d) + 1 := by
        generalize c * d = x
        simp only [Nat.add_mul, Nat.mul_add, Nat.mul_one, Nat.one_mul]
        have : 2 * x * (2 * x) = 4 * (x * x) := by rw [Nat.mul_mul_mul_comm]
        omega
      omega
  · rw [ceil_le (by omega) hd]
    have h : ¬ (down n 1 d + 1) ≤ down n 1 d := by omega
    rw [le_down hd] at h
    omega

theorem RootBetween : entrepotlaw05_RootBetween.Pure := by
  intro n d _ _
  refine ⟨1, ?_⟩
  unfold entrepotlaw05_RootBetween.f entrepotlaw05_good.f
  have hT : entrepotlaw05_RootBetween.j0 1 n d true = some true := by
    simp only [entrepotlaw05_RootBetween.j0, if_true, shown_true, bind_s]
  by_cases h0 : n ≥ 0
  · rw [if_pos h0, bind_s]
    by_cases h1 : n ≤ 80000000000000000
    · rw [decide_eq_true h1, if_pos rfl, shown_true, bind_s]
      by_cases d1 : d < 1
      · rw [if_pos d1]; exact hT
      · rw [if_neg d1]
        by_cases d2 : d > 1000000
        · rw [if_pos d2]; exact hT
        · rw [if_neg d2]
          obtain ⟨m, rfl⟩ := nat_of h0
          obtain ⟨e, rfl⟩ := nat_of (show 0 ≤ d by omega)
          show entrepotlaw05_RootBetween.j0 1 (m : Int) (e : Int) false = some true
          simp only [entrepotlaw05_RootBetween.j0]
          have he : 1 ≤ e := by omega
          obtain ⟨b1, b2, b3⟩ := between m e he
          have hx : down m 1 e ≤ 3037000499 := Nat.le_trans (Nat.div_le_self _ _) (isq_bd (by omega))
          have q1 := down_eq (n := m) (m := 1) (d := e) (by omega) (by omega) he
          have q2 := ceil_eq (n := m) (k := 1) (d := e) (by omega) (by omega) (by omega) he (by omega)
          have q3 := near_eq (n := m) (d := e) (by omega) he
          generalize down m 1 e = x at *
          generalize ceil m 1 e = y at *
          generalize near m e = z at *
          rw [if_neg (by simp), show (1 : Int) = ((1 : Nat) : Int) from rfl, q1, bind_s, q3, bind_s, q2, bind_s, if_pos (by omega), if_pos (by omega), if_pos (by omega), wrap64_id (by omega) (by omega), decide_eq_true (by omega)]
    · rw [decide_eq_false h1, if_neg (by simp)]; exact hT
  · rw [if_neg h0, bind_s, if_neg (by simp)]; exact hT

end Go.Proofs.Ytnkhkjdmdjldaaa.Pure
