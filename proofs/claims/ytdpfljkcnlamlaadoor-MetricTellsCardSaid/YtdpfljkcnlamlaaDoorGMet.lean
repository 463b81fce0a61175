/- Plain lemmas of distances. -/
import Derived.Test.YtdpfljkcnlamlaaDoorPx0
import Derived.Test.YtdpfljkcnlamlaaDoorGDist
import Derived.Test.YtdpfljkcnlamlaaDoorPxEntrepotlaw06near
import Derived.Test.YtdpfljkcnlamlaaDoorPxEntrepotlaw06shown
namespace Go.Proofs.YtdpfljkcnlamlaaDoor.Pure
open Go.RowKit Go.Proofs.YtdpfljkcnlamlaaDoor.P Go.Proofs.YtdpfljkcnlamlaaDoorW.PrintWords Go.Proofs.YtdpfljkcnlamlaaDoorW.PrintLast
open DistWalk
theorem bind_s {α β : Type} (a : α) (f : α → Option β) : (some a).bind f = f a := rfl
def badK (m s : Int) : Prop := m ≤ 0 ∨ 6 < m ∨ s < 0 ∨ 6 < s
instance (m s : Int) : Decidable (badK m s) := by unfold badK; infer_instance
theorem dist_bad {m s : Int} (x y : Int) (h : badK m s) : metric_Dist.f m s x y = some (0, 1) := by
  unfold metric_Dist.f; exact if_pos h
theorem dist_far {m s x y : Int} (h : ¬ badK m s) (hf : far x ∨ far y) : metric_Dist.f m s x y = some (0, 2) := by
  unfold metric_Dist.f; exact (if_neg h).trans (if_pos hf)
theorem dist_ok {m s x y : Int} (h : ¬ badK m s) (hx : ¬ far x) (hy : ¬ far y) : metric_Dist.f m s x y = some ((way m (ten s.toNat) x y : Int), 0) := by
  unfold metric_Dist.f; exact (if_neg h).trans (if_neg (by rintro (h | h); exact hx h; exact hy h))
theorem near_in {a : Int} (h : ¬ far a) : entrepotlaw06_near.f a = some true := by
  unfold far at h; unfold entrepotlaw06_near.f
  rw [if_pos (by omega), decide_eq_true (by omega)]
theorem near_out {a : Int} (h : far a) : entrepotlaw06_near.f a = some false := by
  unfold far at h; unfold entrepotlaw06_near.f
  by_cases h1 : a ≥ -200000000
  · rw [if_pos h1, decide_eq_false (by omega)]
  · rw [if_neg h1]
theorem near_say (a : Int) : entrepotlaw06_near.f a = some (decide (¬ far a)) := by
  by_cases h : far a
  · rw [near_out h, decide_eq_false (by simpa using h)]
  · rw [near_in h, decide_eq_true h]
theorem far_neg {x : Int} (h : ¬ far x) : ¬ far (-x) ∧ wrap64 (-x) = -x := by
  unfold far at *; constructor
  · omega
  · unfold wrap64; omega
theorem shown6 : entrepotlaw06_shown.f = some true := entrepotlaw06_shown.only
theorem sq2_neg1 (x y : Int) : sq2 (-x) y = sq2 x y := by unfold sq2; rw [Int.natAbs_neg]
theorem sq2_neg2 (x y : Int) : sq2 x (-y) = sq2 x y := by unfold sq2; rw [Int.natAbs_neg]
theorem sq2_swap (x y : Int) : sq2 y x = sq2 x y := by unfold sq2; exact Nat.add_comm _ _
theorem way_neg1 (m : Int) (t : Nat) (x y : Int) : way m t (-x) y = way m t x y := by unfold way; rw [sq2_neg1, Int.natAbs_neg]
theorem way_neg2 (m : Int) (t : Nat) (x y : Int) : way m t x (-y) = way m t x y := by unfold way; rw [sq2_neg2, Int.natAbs_neg]
theorem way_swap (m : Int) (t : Nat) (x y : Int) : way m t y x = way m t x y := by unfold way; rw [sq2_swap, Nat.add_comm, Nat.max_comm]
theorem sq_le_iff {a b : Nat} : a * a ≤ b * b ↔ a ≤ b := ⟨fun h => by
  rcases Nat.lt_or_ge b a with hb | hb
  · exact absurd (Nat.mul_lt_mul'' hb hb) (by omega)
  · exact hb, sq_mono⟩
theorem le_nst {a t q : Nat} (ht : 1 ≤ t) : q ≤ nst a t ↔ 2 * (q * t) ≤ 2 * a + t := by
  unfold nst; rw [Nat.le_div_iff_mul_le (by omega)]; generalize q * t = z; omega
/-- Of no way, the length is nought. -/
theorem way_zero {t : Nat} (m : Int) (ht : 1 ≤ t) : way m t 0 0 = 0 := by
  have e : sq2 0 0 = 0 := rfl
  have h1 : near 0 t = 0 := by
    rcases Nat.eq_zero_or_pos (near 0 t) with h | h
    · exact h
    · have := (le_near (q := 1) (n := 0) ht).1 h
      have h3 : 1 ≤ (2 * 1 - 1) * t * ((2 * 1 - 1) * t) := Nat.mul_pos (by omega) (by omega)
      omega
  have h2 : ∀ k, 1 ≤ k → ceil 0 k t = 0 := fun k hk => Nat.le_zero.1 ((ceil_le hk ht).2 (by omega))
  have h3 : nst 0 t = 0 := by
    rcases Nat.eq_zero_or_pos (nst 0 t) with h | h
    · exact h
    · have := (le_nst (q := 1) (a := 0) ht).1 h; omega
  have h4 : down 0 10 t = 0 := by
    rcases Nat.eq_zero_or_pos (down 0 10 t) with h | h
    · exact h
    · have := (le_down (q := 1) (n := 0) (m := 10) ht).1 h
      have h3 : 1 ≤ 1 * t * (1 * t) := Nat.mul_pos (by omega) (by omega)
      omega
  unfold way; rw [e, h1, h2 1 (by omega), h2 10 (by omega), show Int.natAbs 0 + Int.natAbs 0 = 0 from rfl, show max (Int.natAbs 0) (Int.natAbs 0) = 0 from rfl, h3, h4]
  repeat' split
  all_goals rfl
/-- In scale 0 of a way there is a length. -/
theorem way_pos {m x y : Int} (h : x ≠ 0 ∨ y ≠ 0) : 1 ≤ way m 1 x y := by
  have e : 1 ≤ sq2 x y := by
    unfold sq2
    rcases h with h | h
    · have : 1 ≤ x.natAbs * x.natAbs := Nat.mul_pos (by omega) (by omega)
      omega
    · have : 1 ≤ y.natAbs * y.natAbs := Nat.mul_pos (by omega) (by omega)
      omega
  have hc : ∀ k, 1 ≤ k → 1 ≤ ceil (sq2 x y) k 1 := fun k hk => by
    rcases Nat.eq_zero_or_pos (ceil (sq2 x y) k 1) with h | h
    · have := (ceil_le hk (Nat.le_refl 1)).1 (Nat.le_of_eq h); omega
    · exact h
  unfold way
  repeat' split
  · exact (le_near (by omega)).2 (Or.inr (by omega))
  · exact hc 1 (by omega)
  · exact (le_nst (by omega)).2 (by omega)
  · exact (le_nst (by omega)).2 (by omega)
  · exact hc 10 (by omega)
  · exact (le_down (by omega)).2 (by omega)
theorem ten_pos (k : Nat) : 1 ≤ ten k := Nat.pow_pos (by omega)
end Go.Proofs.YtdpfljkcnlamlaaDoor.Pure
