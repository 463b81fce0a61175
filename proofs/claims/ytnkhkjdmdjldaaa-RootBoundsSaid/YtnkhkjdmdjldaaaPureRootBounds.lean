/- Of every number from 0 to 8 * 10^16, the square of its root is at most the number, and that of one more is above it; of other numbers nothing is asked. -/
import Derived.Test.YtnkhkjdmdjldaaaPxEntrepotlaw05Rootbounds
import Derived.Test.YtnkhkjdmdjldaaaGShownRoot
namespace Go.Proofs.Ytnkhkjdmdjldaaa.Pure
open Go.RowKit Go.Proofs.Ytnkhkjdmdjldaaa.P Go.Proofs.YtnkhkjdmdjldaaaW.PrintWords Go.Proofs.YtnkhkjdmdjldaaaW.PrintLast

theorem RootBounds : entrepotlaw05_RootBounds.Pure := by
  intro n _
  refine ⟨1, ?_⟩
  unfold entrepotlaw05_RootBounds.f entrepotlaw05_good.f
  have hT : entrepotlaw05_RootBounds.j0 1 n true = some true := by
    simp only [entrepotlaw05_RootBounds.j0, if_true, shown_true, bind_s]
  by_cases h0 : n ≥ 0
  · rw [if_pos h0, bind_s]
    by_cases h1 : n ≤ 80000000000000000
    · rw [decide_eq_true h1, if_pos rfl, shown_true, bind_s]
      obtain ⟨m, rfl⟩ := nat_of h0
      show entrepotlaw05_RootBounds.j0 1 (m : Int) false = some true
      simp only [entrepotlaw05_RootBounds.j0]
      rw [if_neg (by simp), floor_eq (by omega), bind_s]
      have a := isq_le m
      have b := isq_lt m
      have hb : isq m ≤ 300000000 := isq_le_of (by omega)
      have hs := sq_mono (show isq m + 1 ≤ 300000001 by omega)
      have e1 : ((isq m : Int) * (isq m : Int)) = ((isq m * isq m : Nat) : Int) := (Int.natCast_mul _ _).symm
      have e2 : (((isq m : Int) + 1) * ((isq m : Int) + 1)) = (((isq m + 1) * (isq m + 1) : Nat) : Int) := by rw [Int.natCast_mul]; rfl
      rw [wrap64_id (a := (isq m : Int) + 1) (by omega) (by omega), e1, e2]
      generalize (isq m + 1) * (isq m + 1) = y at *
      generalize hx : isq m * isq m = x at *
      rw [wrap64_id (a := (x : Int)) (by omega) (by omega), wrap64_id (a := (y : Int)) (by omega) (by omega), if_pos (by omega), if_pos (by omega), if_pos (by omega), decide_eq_true (by omega)]
    · rw [decide_eq_false h1, if_neg (by simp)]; exact hT
  · rw [if_neg h0, bind_s, if_neg (by simp)]; exact hT

end Go.Proofs.Ytnkhkjdmdjldaaa.Pure
