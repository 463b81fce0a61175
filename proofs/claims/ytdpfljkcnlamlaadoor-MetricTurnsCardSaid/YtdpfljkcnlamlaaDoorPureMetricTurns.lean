/- A distance is the same the other way round, mirrored, and with its sides changed; it is 0 just where it should be. -/
import Derived.Test.YtdpfljkcnlamlaaDoorPxEntrepotlaw06MetricTurns
import Derived.Test.YtdpfljkcnlamlaaDoorGMet
namespace Go.Proofs.YtdpfljkcnlamlaaDoor.Pure
open Go.RowKit Go.Proofs.YtdpfljkcnlamlaaDoor.P Go.Proofs.YtdpfljkcnlamlaaDoorW.PrintWords Go.Proofs.YtdpfljkcnlamlaaDoorW.PrintLast
open DistWalk
theorem turns_j {m s x y n : Int} (hn : n = 0) : entrepotlaw06_MetricTurns.j0 1 m s x y n true = some true := by
  subst hn
  simp only [entrepotlaw06_MetricTurns.j0, if_true, shown6, bind_s]
  rfl
theorem MetricTurns (m s x y : Int) (_ : (Lit.int .i64 m).wf = true) (_ : (Lit.int .i64 s).wf = true) (_ : (Lit.int .i64 x).wf = true) (_ : (Lit.int .i64 y).wf = true) : ∃ k, entrepotlaw06_MetricTurns.f k m s x y = some true := by
  refine ⟨1, ?_⟩
  unfold entrepotlaw06_MetricTurns.f
  by_cases hb : badK m s
  · rw [dist_bad x y hb, bind_s, if_neg (by decide)]; exact turns_j rfl
  by_cases hf : far x ∨ far y
  · rw [dist_far hb hf, bind_s, if_neg (by decide)]; exact turns_j rfl
  have hx : ¬ far x := fun h => hf (Or.inl h)
  have hy : ¬ far y := fun h => hf (Or.inr h)
  have h0 : ¬ far 0 := by unfold far; omega
  rw [dist_ok hb hx hy, bind_s, if_pos rfl, near_in hx, bind_s, if_pos rfl, near_in hy, bind_s, if_pos rfl, shown6, bind_s]
  show entrepotlaw06_MetricTurns.j0 1 m s x y (way m (ten s.toNat) x y : Int) false = some true
  have ht := ten_pos s.toNat
  simp only [entrepotlaw06_MetricTurns.j0]
  rw [if_neg (by decide), (far_neg hx).2, dist_ok hb (far_neg hx).1 hy, bind_s, (far_neg hy).2, dist_ok hb hx (far_neg hy).1, bind_s, dist_ok hb hy hx, bind_s, dist_ok hb h0 h0, bind_s, way_neg1, way_neg2, way_swap m _ x y, way_zero m ht]
  iterate 7 rw [if_pos rfl]
  rw [if_pos (show ((0 : Nat) : Int) = 0 from rfl)]
  rw [if_pos (by omega)]
  by_cases hs : s > 0
  · rw [if_pos hs]
  · rw [if_neg hs]
    have e : ten s.toNat = 1 := by
      have : s.toNat = 0 := by omega
      rw [this]; rfl
    rw [e]
    by_cases hz : x ≠ 0 ∨ y ≠ 0
    · have := way_pos (m := m) hz
      rw [if_pos (by omega)]
    · obtain rfl : x = 0 := by omega
      obtain rfl : y = 0 := by omega
      rw [way_zero m (Nat.le_refl 1)]
      rfl
end Go.Proofs.YtdpfljkcnlamlaaDoor.Pure
