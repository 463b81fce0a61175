/- What the statements of layer 5 show by examples is so. -/
import Derived.Test.YtnkhkjdmdjldaaaGRoot
import Derived.Test.YtnkhkjdmdjldaaaPxEntrepotlaw05Shown
namespace Go.Proofs.Ytnkhkjdmdjldaaa
open Go.RowKit Go.Proofs.YtnkhkjdmdjldaaaW.PrintWords

theorem shown_true : P.entrepotlaw05_shown.f = some true := by
  unfold P.entrepotlaw05_shown.f
  have f1 : root_Floor.f 99 = some 9 := by
    have := floor_eq (n := 99) (by omega)
    rw [isq_eq (n := 99) (q := 9) (by omega) (by omega)] at this; exact this
  have f2 : P.root_Near.f 2 1 = some 1 := by
    have := near_eq (n := 2) (d := 1) (by omega) (by omega)
    unfold near at this
    rw [isq_eq (n := 4 * 2) (q := 2) (by omega) (by omega)] at this; exact this
  have f3 : P.root_Near.f 225 10 = some 2 := by
    have := near_eq (n := 225) (d := 10) (by omega) (by omega)
    unfold near at this
    rw [isq_eq (n := 4 * 225) (q := 30) (by omega) (by omega)] at this; exact this
  have f4 : P.root_Near.f 224 10 = some 1 := by
    have := near_eq (n := 224) (d := 10) (by omega) (by omega)
    unfold near at this
    rw [isq_eq (n := 4 * 224) (q := 29) (by omega) (by omega)] at this; exact this
  have f5 : P.root_Ceil.f 2 1 1 = some 2 := by
    have := ceil_eq (n := 2) (k := 1) (d := 1) (by omega) (by omega) (by omega) (by omega) (by omega)
    rw [show ceil 2 1 1 = 2 from Nat.le_antisymm ((ceil_le (by omega) (by omega)).2 (by omega)) (Nat.le_of_not_lt fun h => by have := (ceil_le (n := 2) (k := 1) (d := 1) (q := 1) (by omega) (by omega)).1 (by omega); omega)] at this
    exact this
  have f6 : P.root_Ceil.f 1000 10 1 = some 10 := by
    have := ceil_eq (n := 1000) (k := 10) (d := 1) (by omega) (by omega) (by omega) (by omega) (by omega)
    rw [show ceil 1000 10 1 = 10 from Nat.le_antisymm ((ceil_le (by omega) (by omega)).2 (by omega)) (Nat.le_of_not_lt fun h => by have := (ceil_le (n := 1000) (k := 10) (d := 1) (q := 9) (by omega) (by omega)).1 (by omega); omega)] at this
    exact this
  have f7 : P.root_Down.f 2 10 1 = some 14 := by
    have := down_eq (n := 2) (m := 10) (d := 1) (by omega) (by omega) (by omega)
    unfold down at this
    rw [isq_eq (n := 10 * 10 * 2) (q := 14) (by omega) (by omega)] at this; exact this
  rw [f1, bind_s, if_pos rfl, f2, bind_s, if_pos rfl, f3, bind_s, if_pos rfl, f4, bind_s, if_pos rfl, f5, bind_s, if_pos rfl, f6, bind_s, if_pos rfl, f7, bind_s]
  rfl
theorem nat_of {a : Int} (h : 0 ≤ a) : ∃ n : Nat, a = (n : Int) := ⟨a.toNat, by omega⟩
end Go.Proofs.Ytnkhkjdmdjldaaa
