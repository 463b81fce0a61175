/- The example's distances, reckoned by the bounds of their roots. -/
import Derived.Test.YtdpfljkcnlamlaaDoorPx0
import Derived.Test.YtdpfljkcnlamlaaDoorGDist
import Derived.Test.YtdpfljkcnlamlaaDoorGKeyword
namespace Go.Proofs.YtdpfljkcnlamlaaDoor.P
open Go.RowKit Go.Proofs.YtdpfljkcnlamlaaDoorW.PrintWords Go.Proofs.YtdpfljkcnlamlaaDoorW.PrintLast Go.Proofs.YtdpfljkcnlamlaaDoorW.PrintMore
open DistWalk
theorem sh_i1 : isq 136 = 11 := isq_eq (by decide) (by decide)
theorem sh_i2 : isq 4 = 2 := isq_eq (by decide) (by decide)
theorem sh_i3 : isq 250000 = 500 := isq_eq (by decide) (by decide)
theorem sh_s1 : 4 * DistWalk.sq2 3 5 = 136 := by decide
theorem sh_s2 : cd (DistWalk.sq2 (-3) 5) 10 = 4 := by decide
theorem sh_s3 : 10 * 10 * DistWalk.sq2 30 40 = 250000 := by decide
theorem sh_near {n d k i : Nat} (h : 4 * n = k) (hi : isq k = i) : near n d = (i / d + 1) / 2 := by unfold near; rw [h, hi]
theorem sh_down {n m d k i : Nat} (h : m * m * n = k) (hi : isq k = i) : down n m d = i / d := by unfold down; rw [h, hi]
theorem sh_ceil {n m d k i : Nat} (h : cd n m = k) (hi : isq k = i) : ceil n m d = cd (if i * i < k then i + 1 else i) d := by unfold ceil csq; rw [h, hi]
theorem sh_w1 : DistWalk.way 1 1 3 5 = 6 := (show DistWalk.way 1 1 3 5 = near (DistWalk.sq2 3 5) 1 by unfold DistWalk.way; rw [if_pos rfl]).trans ((sh_near sh_s1 sh_i1).trans (by decide))
theorem sh_w2 : DistWalk.way 5 1 (-3) 5 = 2 := (show DistWalk.way 5 1 (-3) 5 = ceil (DistWalk.sq2 (-3) 5) 10 1 by unfold DistWalk.way; rw [if_neg (by decide), if_neg (by decide), if_neg (by decide), if_neg (by decide), if_pos rfl]).trans ((sh_ceil sh_s2 sh_i2).trans (by decide))
theorem sh_w3 : DistWalk.way 6 10 30 40 = 50 := (show DistWalk.way 6 10 30 40 = down (DistWalk.sq2 30 40) 10 10 by unfold DistWalk.way; rw [if_neg (by decide), if_neg (by decide), if_neg (by decide), if_neg (by decide), if_neg (by decide)]).trans ((sh_down sh_s3 sh_i3).trans (by decide))
theorem sh_ok {m s x y : Int} {t k : Nat} (h1 : ¬ (m ≤ 0 ∨ 6 < m ∨ s < 0 ∨ 6 < s)) (h2 : ¬ (DistWalk.far x ∨ DistWalk.far y)) (ht : DistWalk.ten s.toNat = t) (hw : DistWalk.way m t x y = k) : metric_Dist.f m s x y = some ((k : Int), 0) := by
  unfold metric_Dist.f; rw [if_neg h1, if_neg h2, ht, hw]
theorem sh_d1 : metric_Dist.f 1 0 3 5 = some (6, 0) := sh_ok (by omega) (by unfold DistWalk.far; omega) (by decide) sh_w1
theorem sh_d2 : metric_Dist.f 5 0 (-3) 5 = some (2, 0) := sh_ok (by omega) (by unfold DistWalk.far; omega) (by decide) sh_w2
theorem sh_d3 : metric_Dist.f 6 1 30 40 = some (50, 0) := sh_ok (by omega) (by unfold DistWalk.far; omega) (by decide) sh_w3
theorem sh_d4 : metric_Dist.f 0 0 3 5 = some (0, 1) := by unfold metric_Dist.f; rw [if_pos (by omega)]
theorem sh_d5 : metric_Keyword.f 1 = some ⟨#[69, 85, 67, 95, 50, 68]⟩ := by decide +kernel
end Go.Proofs.YtdpfljkcnlamlaaDoor.P
