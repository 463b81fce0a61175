/- Written by a program of this session, after the kit's print: Lean functions for Go functions, and the proof that the machine comes to their answers. -/
import Derived.Test.YtdjkhcmblekeiaaPx0
import Derived.Test.YtdjkhcmblekeiaaGBlk
import Derived.Test.YtdjkhcmblekeiaaPxEntrepotlaw09long
import Derived.Test.YtdjkhcmblekeiaaPxEntrepotlaw09shown
import Derived.Test.YtdjkhcmblekeiaaPxPlanMany
import Derived.Test.YtdjkhcmblekeiaaGCount
import Derived.Test.YtdjkhcmblekeiaaGFind
namespace Go.Proofs.Ytdjkhcmblekeiaa.P
open Go.RowKit Go.Proofs.YtdjkhcmblekeiaaW.PrintWords Go.Proofs.YtdjkhcmblekeiaaW.PrintLast Go.Proofs.YtdjkhcmblekeiaaW.PrintMore
attribute [local go_sem] max2_int min2_int max_two min_two max_three min_three max_four min_four   -- for this text's walks alone
set_option linter.unusedVariables false
set_option linter.unusedSimpArgs false

/-! ### entrepotlaw09_PlanJoins: function 5 -/
mutual
def entrepotlaw09_PlanJoins.j0 : Nat → Int → Bool → List (List Int) → List (List Int) → Option (Bool)
 | 0, _, _, _, _ => none
 | k + 1, x2, x30, x328000, x329000 => if x30 = true then ((entrepotlaw09_shown.f k).bind fun t332 => (some t332)) else ((some (([] : List (List Int)) : List (List Int))).bind fun y333 => (if y333.length + x328000.length < 5864062014805 then ((some (y333 ++ x328000 : List (List Int))).bind fun y336 => (if y336.length + x329000.length < 5864062014805 then ((some (y336 ++ x329000 : List (List Int))).bind fun y339 => ((plan_Count.f x328000 30).bind fun t343 => ((plan_Count.f x329000 30).bind fun t346 => ((plan_Count.f y339 30).bind fun t349 => (if (t343.length : Int) = 30 then (if (t346.length : Int) = 30 then (if (t349.length : Int) = 30 then ((plan_Many.f k y339).bind fun t352 => ((plan_Many.f k x328000).bind fun t353 => ((plan_Many.f k x329000).bind fun t354 => (entrepotlaw09_PlanJoins.j1 k x2 t343 t346 t349 (t352 != (wrap64 (t353 + t354))) x328000 x329000 y339)))) else (entrepotlaw09_PlanJoins.j1 k x2 t343 t346 t349 true x328000 x329000 y339)) else (entrepotlaw09_PlanJoins.j1 k x2 t343 t346 t349 true x328000 x329000 y339)) else (entrepotlaw09_PlanJoins.j1 k x2 t343 t346 t349 true x328000 x329000 y339)))))) else (none))) else (none)))
def entrepotlaw09_PlanJoins.j1 : Nat → Int → List Int → List Int → List Int → Bool → List (List Int) → List (List Int) → List (List Int) → Option (Bool)
 | 0, _, _, _, _, _, _, _, _ => none
 | k + 1, x2, x8, x9, x10, x68, x328000, x329000, x343000 => if x68 = true then (some false) else (entrepotlaw09_PlanJoins.l0 k x2 x8 x9 x10 0 x328000 x329000 x343000)
def entrepotlaw09_PlanJoins.l0 : Nat → Int → List Int → List Int → List Int → Int → List (List Int) → List (List Int) → List (List Int) → Option (Bool)
 | 0, _, _, _, _, _, _, _, _ => none
 | k + 1, x2, x8, x9, x10, x11, x328000, x329000, x343000 => if x11 < 30 then (if 0 ≤ x11 then (if x11 < (x10.length : Int) then (if x11 < (x8.length : Int) then (if x11 < (x9.length : Int) then (if (rd x10 x11) = (wrap64 ((rd x8 x11) + (rd x9 x11))) then (entrepotlaw09_PlanJoins.l0 k x2 x8 x9 x10 (wrap64 (x11 + 1)) x328000 x329000 x343000) else (some false)) else (none)) else (none)) else (none)) else (none)) else ((plan_Find.f x328000 x2).bind fun bt358 => ((plan_Find.f x329000 x2).bind fun bt361 => ((plan_Find.f x343000 x2).bind fun bt364 => (if bt358.2.2 = true then (if bt364.2.2 = true then (if bt364.1 = bt358.1 then (some (bt364.2.1 == bt358.2.1)) else (some false)) else (some false)) else (if (bt364.2.2 == bt361.2.2) = true then (if bt364.2.1 = bt361.2.1 then (if bt361.2.2 = true then (some (bt364.1 == (wrap64 (bt361.1 + (x328000.length : Int))))) else (if bt364.1 = 0 then (some true) else (some false))) else (some false)) else (some false))))))
end
def entrepotlaw09_PlanJoins.f (k : Nat) (l0_0 : List (List Int)) (l1_0 : List (List Int)) (a2 : Int) : Option (Bool) := (entrepotlaw09_long.f k l0_0).bind fun t329 => (if t329 = true then (entrepotlaw09_PlanJoins.j0 k a2 true l0_0 l1_0) else ((entrepotlaw09_long.f k l1_0).bind fun t330 => (if t330 = true then (entrepotlaw09_PlanJoins.j0 k a2 true l0_0 l1_0) else ((entrepotlaw09_shown.f k).bind fun t331 => (entrepotlaw09_PlanJoins.j0 k a2 (!t331) l0_0 l1_0)))))
theorem entrepotlaw09_PlanJoins.mono_l : ∀ k, (∀ y0 y1 y2 y3, LeO (entrepotlaw09_PlanJoins.j0 k y0 y1 y2 y3) (entrepotlaw09_PlanJoins.j0 (k + 1) y0 y1 y2 y3)) ∧ (∀ y0 y1 y2 y3 y4 y5 y6 y7, LeO (entrepotlaw09_PlanJoins.j1 k y0 y1 y2 y3 y4 y5 y6 y7) (entrepotlaw09_PlanJoins.j1 (k + 1) y0 y1 y2 y3 y4 y5 y6 y7)) ∧ (∀ y0 y1 y2 y3 y4 y5 y6 y7, LeO (entrepotlaw09_PlanJoins.l0 k y0 y1 y2 y3 y4 y5 y6 y7) (entrepotlaw09_PlanJoins.l0 (k + 1) y0 y1 y2 y3 y4 y5 y6 y7))
 | 0 => ⟨fun _ _ _ _ r h => by simp [entrepotlaw09_PlanJoins.j0] at h, fun _ _ _ _ _ _ _ _ r h => by simp [entrepotlaw09_PlanJoins.j1] at h, fun _ _ _ _ _ _ _ _ r h => by simp [entrepotlaw09_PlanJoins.l0] at h⟩
 | k + 1 => by
  obtain ⟨ih0, ih1, ih2⟩ := entrepotlaw09_PlanJoins.mono_l k
  refine ⟨?_, ?_, ?_⟩ <;> intros
  all_goals first | unfold entrepotlaw09_PlanJoins.j0 | unfold entrepotlaw09_PlanJoins.j1 | unfold entrepotlaw09_PlanJoins.l0
  all_goals repeat' first
  | (with_reducible exact ih0 _ _ _ _)
  | (with_reducible exact ih1 _ _ _ _ _ _ _ _)
  | (with_reducible exact ih2 _ _ _ _ _ _ _ _)
  | (with_reducible exact entrepotlaw09_long.mono _ _)
  | (with_reducible exact entrepotlaw09_shown.mono _)
  | (with_reducible exact plan_Many.mono _ _)
  | (with_reducible exact LeO.refl _)
  | (with_reducible exact LeO.none _)
  | (with_reducible refine LeO.ite ?_ ?_)
  | (with_reducible refine LeO.bind ?_ (fun _ => ?_))
  | exact ih0 _ _ _ _
  | exact ih1 _ _ _ _ _ _ _ _
  | exact ih2 _ _ _ _ _ _ _ _
  | exact entrepotlaw09_long.mono _ _
  | exact entrepotlaw09_shown.mono _
  | exact plan_Many.mono _ _
  | exact LeO.none _
  | refine LeO.ite ?_ ?_
  | refine LeO.bind ?_ (fun _ => ?_)
theorem entrepotlaw09_PlanJoins.mono : ∀ a0 a1 a2 k, LeO (entrepotlaw09_PlanJoins.f k a0 a1 a2) (entrepotlaw09_PlanJoins.f (k + 1) a0 a1 a2) := by
 intro a0 a1 a2 k
 obtain ⟨ih0, ih1, ih2⟩ := entrepotlaw09_PlanJoins.mono_l k
 unfold entrepotlaw09_PlanJoins.f
 repeat' first
   | (with_reducible exact ih0 _ _ _ _)
   | (with_reducible exact ih1 _ _ _ _ _ _ _ _)
   | (with_reducible exact ih2 _ _ _ _ _ _ _ _)
   | (with_reducible exact entrepotlaw09_long.mono _ _)
   | (with_reducible exact entrepotlaw09_shown.mono _)
   | (with_reducible exact plan_Many.mono _ _)
   | (with_reducible exact LeO.refl _)
   | (with_reducible exact LeO.none _)
   | (with_reducible refine LeO.ite ?_ ?_)
   | (with_reducible refine LeO.bind ?_ (fun _ => ?_))
   | exact ih0 _ _ _ _
   | exact ih1 _ _ _ _ _ _ _ _
   | exact ih2 _ _ _ _ _ _ _ _
   | exact entrepotlaw09_long.mono _ _
   | exact entrepotlaw09_shown.mono _
   | exact plan_Many.mono _ _
   | exact LeO.none _
   | refine LeO.ite ?_ ?_
   | refine LeO.bind ?_ (fun _ => ?_)
def entrepotlaw09_PlanJoins.T3 : Bool × List (List Nat × List Nat) := (true, [([], []), ([], []), ([1], [1]), ([0, 2], [0, 2]), ([], []), ([4], [4]), ([3, 5, 3], [3, 5]), ([6], [6]), ([], []), ([8, 7, 6, 0, 1, 2, 3, 4, 5, 6, 7, 8], [7, 8])])
def entrepotlaw09_PlanJoins.B3 : List Nat := [0, 0, 2, 7, 0, 16, 63, 127, 0, 511]
theorem entrepotlaw09_PlanJoins.tab3 : rtab .any (opsOf Try.f5 3) = entrepotlaw09_PlanJoins.T3 := by kernel_rfl
theorem entrepotlaw09_PlanJoins.bits3 : waitsOk entrepotlaw09_PlanJoins.T3.2 entrepotlaw09_PlanJoins.B3 = true := by kernel_rfl
def entrepotlaw09_PlanJoins.T7 : Bool × List (List Nat × List Nat) := (true, [([], []), ([0], [0]), ([1], [1]), ([2], [2]), ([3], [3]), ([4, 3], [3, 4]), ([5, 3], [3, 5]), ([3, 6], [3, 6]), ([7, 3], [7]), ([8], [8]), ([9, 8], [8, 9]), ([10, 8], [8, 10]), ([8, 11], [8, 11]), ([12, 8], [12]), ([13], [13]), ([14, 13, 13], [13, 14]), ([13], [13]), ([16, 15, 13], [13, 16]), ([13], [13]), ([18, 17, 13], [13, 18]), ([17, 19, 13], [13, 17, 19]), ([15, 20, 13], [13, 15, 20]), ([13, 21], [13, 21])])
def entrepotlaw09_PlanJoins.B7 : List Nat := [0, 1, 3, 7, 15, 31, 63, 127, 255, 511, 1023, 2047, 4095, 8191, 16383, 32767, 16383, 131071, 16383, 524287, 1048575, 2097151, 4194303]
theorem entrepotlaw09_PlanJoins.tab7 : rtab .any (opsOf Try.f5 7) = entrepotlaw09_PlanJoins.T7 := by kernel_rfl
theorem entrepotlaw09_PlanJoins.bits7 : waitsOk entrepotlaw09_PlanJoins.T7.2 entrepotlaw09_PlanJoins.B7 = true := by kernel_rfl
def entrepotlaw09_PlanJoins.T12 : Bool × List (List Nat × List Nat) := (true, [([], []), ([], []), ([0, 1], [0, 1]), ([2], [2]), ([], []), ([], []), ([4, 5], [4, 5]), ([6], [6]), ([], []), ([], []), ([8, 9], [8, 9]), ([10], [10]), ([7, 11], [7, 11]), ([3, 12], [3, 12])])
def entrepotlaw09_PlanJoins.B12 : List Nat := [0, 0, 3, 7, 0, 0, 48, 112, 0, 0, 768, 1792, 4080, 8191]
theorem entrepotlaw09_PlanJoins.tab12 : rtab .any (opsOf Try.f5 12) = entrepotlaw09_PlanJoins.T12 := by kernel_rfl
theorem entrepotlaw09_PlanJoins.bits12 : waitsOk entrepotlaw09_PlanJoins.T12.2 entrepotlaw09_PlanJoins.B12 = true := by kernel_rfl
abbrev PJ0_ : Array Bool := #[true, true, true, true, true, true, true, true, true, false]
abbrev PJ1_ : Array Bool := #[true, true, true, false, true, true, false, false, true, false]
abbrev PJ2_ : Array Bool := #[true, true, true, true, true, true, false, false, true, false]
abbrev PJ3_ : Array Bool := #[true, true, true, true, true, true, true, false, true, false]
abbrev PJ4_ : Array Bool := #[false, false, false, false, false, false, false, false, false, false, false, false, false, false, false, false, false, false, false, false, false, false, false]
abbrev PJ5_ : Array Bool := #[true, false, false, false, false, false, false, false, false, false, false, false, false, false, false, false, false, false, false, false, false, false, false]
abbrev PJ6_ : Array Bool := #[true, true, false, false, false, false, false, false, false, false, false, false, false, false, false, false, false, false, false, false, false, false, false]
abbrev PJ7_ : Array Bool := #[true, true, true, false, false, false, false, false, false, false, false, false, false, false, false, false, false, false, false, false, false, false, false]
abbrev PJ8_ : Array Bool := #[true, true, true, true, false, false, false, false, false, false, false, false, false, false, false, false, false, false, false, false, false, false, false]
abbrev PJ9_ : Array Bool := #[true, true, true, true, true, false, false, false, false, false, false, false, false, false, false, false, false, false, false, false, false, false, false]
abbrev PJ10_ : Array Bool := #[true, true, true, true, true, true, false, false, false, false, false, false, false, false, false, false, false, false, false, false, false, false, false]
abbrev PJ11_ : Array Bool := #[true, true, true, true, true, true, true, false, false, false, false, false, false, false, false, false, false, false, false, false, false, false, false]
abbrev PJ12_ : Array Bool := #[true, true, true, true, true, true, true, true, false, false, false, false, false, false, false, false, false, false, false, false, false, false, false]
abbrev PJ13_ : Array Bool := #[true, true, true, true, true, true, true, true, true, false, false, false, false, false, false, false, false, false, false, false, false, false, false]
abbrev PJ14_ : Array Bool := #[true, true, true, true, true, true, true, true, true, true, false, false, false, false, false, false, false, false, false, false, false, false, false]
abbrev PJ15_ : Array Bool := #[true, true, true, true, true, true, true, true, true, true, true, false, false, false, false, false, false, false, false, false, false, false, false]
abbrev PJ16_ : Array Bool := #[true, true, true, true, true, true, true, true, true, true, true, true, false, false, false, false, false, false, false, false, false, false, false]
abbrev PJ17_ : Array Bool := #[true, true, true, true, true, true, true, true, true, true, true, true, true, false, false, false, false, false, false, false, false, false, false]
abbrev PJ18_ : Array Bool := #[true, true, true, true, true, true, true, true, true, true, true, true, true, true, false, false, false, false, false, false, false, false, false]
abbrev PJ19_ : Array Bool := #[true, true, true, true, true, true, true, true, true, true, true, true, true, true, true, false, false, false, false, false, false, false, false]
abbrev PJ20_ : Array Bool := #[true, true, true, true, true, true, true, true, true, true, true, true, true, true, true, true, true, true, true, false, false, false, false]
abbrev PJ21_ : Array Bool := #[true, true, true, true, true, true, true, true, true, true, true, true, true, true, true, true, true, true, true, true, false, false, false]
abbrev PJ22_ : Array Bool := #[true, true, true, true, true, true, true, true, true, true, true, true, true, true, true, true, true, true, true, true, true, false, false]
abbrev PJ23_ : Array Bool := #[true, true, true, true, true, true, true, true, true, true, true, true, true, true, true, true, true, true, true, true, true, true, false]
abbrev PJ24_ : Array Bool := #[true, true, true, true, true, true, true, true, true, true, true, true, true, true, true, true, true, true, true, true, true, true, true]
abbrev PJ25_ : Array Bool := #[true, true, true, true, true, true, true, true, true, true, true, true, true, true, true, true, false, false, false, false, false, false, false]
abbrev PJ26_ : Array Bool := #[true, true, true, true, true, true, true, true, true, true, true, true, true, true, true, true, true, false, false, false, false, false, false]
abbrev PJ27_ : Array Bool := #[true, true, true, true, true, true, true, true, true, true, true, true, true, true, true, true, true, true, false, false, false, false, false]
abbrev PJ28_ : Array Bool := #[false, false, false, false, false, false, false, false, false, false, false, false, false, false]
abbrev PJ29_ : Array Bool := #[true, false, false, false, false, false, false, false, false, false, false, false, false, false]
abbrev PJ30_ : Array Bool := #[true, true, false, false, false, false, false, false, false, false, false, false, false, false]
abbrev PJ31_ : Array Bool := #[true, true, true, false, false, false, false, false, false, false, false, false, false, false]
abbrev PJ32_ : Array Bool := #[true, true, true, false, true, false, false, false, false, false, false, false, false, false]
abbrev PJ33_ : Array Bool := #[true, true, true, false, true, true, false, false, false, false, false, false, false, false]
abbrev PJ34_ : Array Bool := #[true, true, true, false, true, true, true, false, false, false, false, false, false, false]
abbrev PJ35_ : Array Bool := #[true, true, true, false, true, true, true, false, true, false, false, false, false, false]
abbrev PJ36_ : Array Bool := #[true, true, true, false, true, true, true, false, true, true, false, false, false, false]
abbrev PJ37_ : Array Bool := #[true, true, true, false, true, true, true, false, true, true, true, false, false, false]
abbrev PJ38_ : Array Bool := #[true, true, true, true, true, true, true, false, true, true, true, false, false, false]
abbrev PJ39_ : Array Bool := #[true, true, true, true, true, true, true, true, true, true, true, false, false, false]
abbrev PJ40_ : Array Bool := #[true, true, true, true, true, true, true, true, true, true, true, true, false, false]
abbrev PJ41_ : Array Bool := #[true, true, true, true, true, true, true, true, true, true, true, true, true, false]
abbrev PJ42_ : Array Bool := #[true, true, true, true, true, true, true, true, true, true, true, true, true, true]
end Go.Proofs.Ytdjkhcmblekeiaa.P
