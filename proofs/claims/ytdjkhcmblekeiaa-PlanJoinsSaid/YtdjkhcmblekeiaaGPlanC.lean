/- Plain lemmas of plans: the shown example; what the references compute; the bound. -/
import Derived.Test.YtdjkhcmblekeiaaGPlanB
import Derived.Test.YtdjkhcmblekeiaaGCheck
import Derived.Test.YtdjkhcmblekeiaaPxEntrepotlaw09shown
import Derived.Test.YtdjkhcmblekeiaaPxEntrepotlaw09its
import Derived.Test.YtdjkhcmblekeiaaPxEntrepotref07Ints
namespace Go.Proofs.Ytdjkhcmblekeiaa
open Go.RowKit Go.Proofs.YtdjkhcmblekeiaaW.PrintWords StopsWalk AllWalk P
namespace PlanA
theorem shown_at : entrepotlaw09_shown.f 12 = some true := by decide +kernel
theorem shown_ev : Ev (fun k => entrepotlaw09_shown.f k) true := Ev.of (fun k => entrepotlaw09_shown.mono k) shown_at
theorem long_ev (rs : List (List Int)) : ∃ b, Ev (fun k => entrepotlaw09_long.f k rs) b ∧ (b = false → Fits rs) := by
  obtain ⟨b, hb, hf⟩ := long_tells rs (Nat.lt_succ_self (2 * rs.length + 2))
  exact ⟨b, Ev.of (fun k => entrepotlaw09_long.mono rs k) hb, hf⟩
theorem ints_ev (a b : List Int) (h : a.length ≤ 4611686018427387904) : Ev (fun k => entrepotref07_Ints.f k a b) (decide (a = b)) := Ev.at (K := a.length + 1) fun k hk => ints_tells a b k h hk
theorem find_ev {rs : List (List Int)} (hz : Small rs) (s : Int) : Ev (fun k => entrepotref09_Find.f k rs s) (hit ((stopsOf rs).find? (fun y => y.2 == s))) :=
  Ev.of (fun k => entrepotref09_Find.mono rs s k) (find_tells hz s (fun d => d * 65540) (fun d => by simp only [Nat.add_mul]; omega) (Nat.lt_succ_self _))
theorem planFind_some {rs : List (List Int)} (hz : Fits rs) (s : Int) : plan_Find.f rs s = some (hit ((stopsOf rs).find? (fun y => y.2 == s))) := by
  unfold plan_Find.f
  rw [if_pos hz.smallB]
  congr 1
theorem planCount_some {rs : List (List Int)} (hz : Fits rs) (n : Int) : plan_Count.f rs n = some (if n < 1 ∨ 400 < n then [] else counts n.toNat (stopsOf rs)) := by
  unfold plan_Count.f
  rw [if_pos hz.smallB]
theorem count_short (n : Int) (l : List Stop) : (if n < 1 ∨ 400 < n then [] else counts n.toNat l).length ≤ 400 := by
  split
  · simp
  · rw [counts_length]; omega
end PlanA
end Go.Proofs.Ytdjkhcmblekeiaa
