/- Written by a program of this session, after the kit's print: Lean functions for Go functions, and the proof that the machine comes to their answers. -/
import Derived.Test.YtdjkhcmblekeiaaPx0
import Derived.Test.YtdjkhcmblekeiaaPxEntrepotlaw09long
import Derived.Test.YtdjkhcmblekeiaaPxEntrepotlaw09shown
import Derived.Test.YtdjkhcmblekeiaaPxEntrepotref07Ints
import Derived.Test.YtdjkhcmblekeiaaPxPlanMany
import Derived.Test.YtdjkhcmblekeiaaPxPlanNorm
import Derived.Test.YtdjkhcmblekeiaaGCount
import Derived.Test.YtdjkhcmblekeiaaGFind
import Derived.Test.YtdjkhcmblekeiaaGSame
namespace Go.Proofs.Ytdjkhcmblekeiaa.P
open Go.RowKit Go.Proofs.YtdjkhcmblekeiaaW.PrintWords Go.Proofs.YtdjkhcmblekeiaaW.PrintLast Go.Proofs.YtdjkhcmblekeiaaW.PrintMore
attribute [local go_sem] max2_int min2_int max_two min_two max_three min_three max_four min_four   -- for this text's walks alone
set_option linter.unusedVariables false
set_option linter.unusedSimpArgs false

/-! ### entrepotlaw09_PlanNorms: function 7 -/
mutual
def entrepotlaw09_PlanNorms.j0 : Nat → Int → Bool → List (List Int) → Option (Bool)
 | 0, _, _, _ => none
 | k + 1, x1, x21, x259000 => if x21 = true then ((entrepotlaw09_shown.f k).bind fun t261 => (some t261)) else ((plan_Norm.f k x259000).bind fun t262 => (entrepotlaw09_PlanNorms.l0 k x1 (([] : List Int)) (([] : List Int)) 0 x259000 t262))
def entrepotlaw09_PlanNorms.l0 : Nat → Int → List Int → List Int → Int → List (List Int) → List (List Int) → Option (Bool)
 | 0, _, _, _, _, _, _ => none
 | k + 1, x1, x6, x7, x8, x259000, x266000 => if x8 < (x259000.length : Int) then (if 0 ≤ x8 then (if x6.length + (rd_L1 x259000 x8).length < 17592186044416 then (entrepotlaw09_PlanNorms.l0 k x1 (x6 ++ (rd_L1 x259000 x8)) x7 (wrap64 (x8 + 1)) x259000 x266000) else (none)) else (none)) else (entrepotlaw09_PlanNorms.l1 k x1 x6 x7 0 x259000 x266000)
def entrepotlaw09_PlanNorms.l1 : Nat → Int → List Int → List Int → Int → List (List Int) → List (List Int) → Option (Bool)
 | 0, _, _, _, _, _, _ => none
 | k + 1, x1, x6, x7, x9, x259000, x266000 => if x9 < (x266000.length : Int) then (if 0 ≤ x9 then (if ((rd_L1 x266000 x9).length : Int) = 0 then (some false) else (if x7.length + (rd_L1 x266000 x9).length < 17592186044416 then (entrepotlaw09_PlanNorms.l1 k x1 x6 (x7 ++ (rd_L1 x266000 x9)) (wrap64 (x9 + 1)) x259000 x266000) else (none))) else (none)) else ((plan_Find.f x259000 x1).bind fun bt281 => ((plan_Find.f x266000 x1).bind fun bt284 => ((entrepotref07_Ints.f k x6 x7).bind fun t287 => (if t287 = true then ((plan_Norm.f k x266000).bind fun t288 => ((plan_Same.f t288 x266000).bind fun t291 => (if t291 = true then ((plan_Many.f k x266000).bind fun t292 => ((plan_Many.f k x259000).bind fun t293 => (if t292 = t293 then (if bt281.2.1 = bt284.2.1 then (if (bt281.2.2 == bt284.2.2) = true then ((plan_Count.f x259000 20).bind fun t294 => ((plan_Count.f x266000 20).bind fun t297 => ((entrepotref07_Ints.f k t294 t297).bind fun t300 => (some t300)))) else (some false)) else (some false)) else (some false)))) else (some false)))) else (some false)))))
end
def entrepotlaw09_PlanNorms.f (k : Nat) (l0_0 : List (List Int)) (a1 : Int) : Option (Bool) := (entrepotlaw09_long.f k l0_0).bind fun t259 => (if t259 = true then (entrepotlaw09_PlanNorms.j0 k a1 true l0_0) else ((entrepotlaw09_shown.f k).bind fun t260 => (entrepotlaw09_PlanNorms.j0 k a1 (!t260) l0_0)))
theorem entrepotlaw09_PlanNorms.mono_l : ∀ k, (∀ y0 y1 y2, LeO (entrepotlaw09_PlanNorms.j0 k y0 y1 y2) (entrepotlaw09_PlanNorms.j0 (k + 1) y0 y1 y2)) ∧ (∀ y0 y1 y2 y3 y4 y5, LeO (entrepotlaw09_PlanNorms.l0 k y0 y1 y2 y3 y4 y5) (entrepotlaw09_PlanNorms.l0 (k + 1) y0 y1 y2 y3 y4 y5)) ∧ (∀ y0 y1 y2 y3 y4 y5, LeO (entrepotlaw09_PlanNorms.l1 k y0 y1 y2 y3 y4 y5) (entrepotlaw09_PlanNorms.l1 (k + 1) y0 y1 y2 y3 y4 y5))
 | 0 => ⟨fun _ _ _ r h => by simp [entrepotlaw09_PlanNorms.j0] at h, fun _ _ _ _ _ _ r h => by simp [entrepotlaw09_PlanNorms.l0] at h, fun _ _ _ _ _ _ r h => by simp [entrepotlaw09_PlanNorms.l1] at h⟩
 | k + 1 => by
  obtain ⟨ih0, ih1, ih2⟩ := entrepotlaw09_PlanNorms.mono_l k
  refine ⟨?_, ?_, ?_⟩
  ·intro y0 y1 y2
   unfold entrepotlaw09_PlanNorms.j0
   repeat' first
   | (with_reducible exact ih0 _ _ _)
   | (with_reducible exact ih1 _ _ _ _ _ _)
   | (with_reducible exact ih2 _ _ _ _ _ _)
   | (with_reducible exact entrepotlaw09_long.mono _ _)
   | (with_reducible exact entrepotlaw09_shown.mono _)
   | (with_reducible exact entrepotref07_Ints.mono _ _ _)
   | (with_reducible exact plan_Many.mono _ _)
   | (with_reducible exact plan_Norm.mono _ _)
   | (with_reducible exact LeO.refl _)
   | (with_reducible exact LeO.none _)
   | (with_reducible refine LeO.ite ?_ ?_)
   | (with_reducible refine LeO.bind ?_ (fun _ => ?_))
   | exact ih0 _ _ _
   | exact ih1 _ _ _ _ _ _
   | exact ih2 _ _ _ _ _ _
   | exact entrepotlaw09_long.mono _ _
   | exact entrepotlaw09_shown.mono _
   | exact entrepotref07_Ints.mono _ _ _
   | exact plan_Many.mono _ _
   | exact plan_Norm.mono _ _
   | exact LeO.none _
   | refine LeO.ite ?_ ?_
   | refine LeO.bind ?_ (fun _ => ?_)
  ·intro y0 y1 y2 y3 y4 y5
   unfold entrepotlaw09_PlanNorms.l0
   repeat' first
   | (with_reducible exact ih0 _ _ _)
   | (with_reducible exact ih1 _ _ _ _ _ _)
   | (with_reducible exact ih2 _ _ _ _ _ _)
   | (with_reducible exact entrepotlaw09_long.mono _ _)
   | (with_reducible exact entrepotlaw09_shown.mono _)
   | (with_reducible exact entrepotref07_Ints.mono _ _ _)
   | (with_reducible exact plan_Many.mono _ _)
   | (with_reducible exact plan_Norm.mono _ _)
   | (with_reducible exact LeO.refl _)
   | (with_reducible exact LeO.none _)
   | (with_reducible refine LeO.ite ?_ ?_)
   | (with_reducible refine LeO.bind ?_ (fun _ => ?_))
   | exact ih0 _ _ _
   | exact ih1 _ _ _ _ _ _
   | exact ih2 _ _ _ _ _ _
   | exact entrepotlaw09_long.mono _ _
   | exact entrepotlaw09_shown.mono _
   | exact entrepotref07_Ints.mono _ _ _
   | exact plan_Many.mono _ _
   | exact plan_Norm.mono _ _
   | exact LeO.none _
   | refine LeO.ite ?_ ?_
   | refine LeO.bind ?_ (fun _ => ?_)
  ·intro y0 y1 y2 y3 y4 y5
   unfold entrepotlaw09_PlanNorms.l1
   repeat' first
   | (with_reducible exact ih0 _ _ _)
   | (with_reducible exact ih1 _ _ _ _ _ _)
   | (with_reducible exact ih2 _ _ _ _ _ _)
   | (with_reducible exact entrepotlaw09_long.mono _ _)
   | (with_reducible exact entrepotlaw09_shown.mono _)
   | (with_reducible exact entrepotref07_Ints.mono _ _ _)
   | (with_reducible exact plan_Many.mono _ _)
   | (with_reducible exact plan_Norm.mono _ _)
   | (with_reducible exact LeO.refl _)
   | (with_reducible exact LeO.none _)
   | (with_reducible refine LeO.ite ?_ ?_)
   | (with_reducible refine LeO.bind ?_ (fun _ => ?_))
   | exact ih0 _ _ _
   | exact ih1 _ _ _ _ _ _
   | exact ih2 _ _ _ _ _ _
   | exact entrepotlaw09_long.mono _ _
   | exact entrepotlaw09_shown.mono _
   | exact entrepotref07_Ints.mono _ _ _
   | exact plan_Many.mono _ _
   | exact plan_Norm.mono _ _
   | exact LeO.none _
   | refine LeO.ite ?_ ?_
   | refine LeO.bind ?_ (fun _ => ?_)
theorem entrepotlaw09_PlanNorms.mono : ∀ a0 a1 k, LeO (entrepotlaw09_PlanNorms.f k a0 a1) (entrepotlaw09_PlanNorms.f (k + 1) a0 a1) := by
 intro a0 a1 k
 obtain ⟨ih0, ih1, ih2⟩ := entrepotlaw09_PlanNorms.mono_l k
 unfold entrepotlaw09_PlanNorms.f
 repeat' first
   | (with_reducible exact ih0 _ _ _)
   | (with_reducible exact ih1 _ _ _ _ _ _)
   | (with_reducible exact ih2 _ _ _ _ _ _)
   | (with_reducible exact entrepotlaw09_long.mono _ _)
   | (with_reducible exact entrepotlaw09_shown.mono _)
   | (with_reducible exact entrepotref07_Ints.mono _ _ _)
   | (with_reducible exact plan_Many.mono _ _)
   | (with_reducible exact plan_Norm.mono _ _)
   | (with_reducible exact LeO.refl _)
   | (with_reducible exact LeO.none _)
   | (with_reducible refine LeO.ite ?_ ?_)
   | (with_reducible refine LeO.bind ?_ (fun _ => ?_))
   | exact ih0 _ _ _
   | exact ih1 _ _ _ _ _ _
   | exact ih2 _ _ _ _ _ _
   | exact entrepotlaw09_long.mono _ _
   | exact entrepotlaw09_shown.mono _
   | exact entrepotref07_Ints.mono _ _ _
   | exact plan_Many.mono _ _
   | exact plan_Norm.mono _ _
   | exact LeO.none _
   | refine LeO.ite ?_ ?_
   | refine LeO.bind ?_ (fun _ => ?_)
def entrepotlaw09_PlanNorms.T18 : Bool × List (List Nat × List Nat) := (true, [([], []), ([], []), ([0, 1], [0, 1]), ([2, 2], [2]), ([3], [3]), ([4, 3, 3], [3, 4]), ([3], [3]), ([5, 6, 5, 3], [3, 5, 6]), ([3, 7], [3, 7]), ([8, 7], [8]), ([9], [9]), ([10, 9, 9], [9, 10]), ([9], [9]), ([12, 11, 9], [9, 12]), ([11, 13, 9], [9, 11, 13]), ([9, 14], [9, 14]), ([15, 13], [15]), ([16], [16]), ([16], [16]), ([17, 18, 16], [16, 17, 18]), ([16, 19], [16, 19]), ([20, 16], [20]), ([21], [21]), ([21], [21]), ([22, 23, 21], [21, 22, 23]), ([21, 24], [21, 24]), ([25, 21], [25]), ([26], [26]), ([27, 26, 26], [26, 27]), ([26], [26]), ([29, 28, 26], [26, 29]), ([28, 30, 30, 26], [26, 28, 30]), ([26, 31], [26, 31]), ([32, 31, 0, 1, 2, 3, 4, 5, 6, 7, 8, 9, 10, 11, 12, 13, 14, 15, 16, 17, 18, 19, 20, 21, 22, 23, 24, 25, 26, 27, 28, 29, 30, 31, 32], [32])])
def entrepotlaw09_PlanNorms.B18 : List Nat := [0, 0, 3, 7, 15, 31, 15, 127, 255, 511, 1023, 2047, 1023, 8191, 16383, 32767, 65535, 131071, 131071, 524287, 1048575, 2097151, 4194303, 4194303, 16777215, 33554431, 67108863, 134217727, 268435455, 134217727, 1073741823, 2147483647, 4294967295, 8589934591]
theorem entrepotlaw09_PlanNorms.tab18 : rtab .any (opsOf Try.f7 18) = entrepotlaw09_PlanNorms.T18 := by kernel_rfl
theorem entrepotlaw09_PlanNorms.bits18 : waitsOk entrepotlaw09_PlanNorms.T18.2 entrepotlaw09_PlanNorms.B18 = true := by kernel_rfl
end Go.Proofs.Ytdjkhcmblekeiaa.P
