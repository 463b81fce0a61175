/- Written by a program of this session, after the kit's print: Lean functions for Go functions, and the proof that the machine comes to their answers. -/
import Derived.Test.YtdgdhmglcpkkiaaDoorPx0
import Derived.Test.YtdgdhmglcpkkiaaDoorGBlk
import Derived.Test.YtdgdhmglcpkkiaaDoorMla
namespace Go.Proofs.YtdgdhmglcpkkiaaDoor.P
open Go.RowKit Go.Proofs.YtdgdhmglcpkkiaaDoorW.PrintWords Go.Proofs.YtdgdhmglcpkkiaaDoorW.PrintLast Go.Proofs.YtdgdhmglcpkkiaaDoorW.PrintMore
attribute [local go_sem] max2_int min2_int max_two min_two max_three min_three max_four min_four   -- for this text's walks alone
set_option linter.unusedVariables false
set_option linter.unusedSimpArgs false

/-! ### entrepotref07_Pack: function 14 -/
mutual
def entrepotref07_Pack.l0 : Nat → Int → Int → List Int → List Int → Int → Option (List Int × Int)
 | 0, _, _, _, _, _ => none
 | k + 1, x0, x1, x2, x8, x9 => if x9 < x1 then (entrepotref07_Pack.l1 k x0 x1 x2 x8 x9 0) else (some (x8, 0))
def entrepotref07_Pack.l1 : Nat → Int → Int → List Int → List Int → Int → Int → Option (List Int × Int)
 | 0, _, _, _, _, _, _ => none
 | k + 1, x0, x1, x2, x8, x9, x10 => if x10 < x1 then (if x0 = 6 then (entrepotref07_Pack.j2 k x0 x1 x2 x8 x9 x10 x9 x10 true) else (entrepotref07_Pack.j2 k x0 x1 x2 x8 x9 x10 x9 x10 (x0 == 7))) else (entrepotref07_Pack.l0 k x0 x1 x2 x8 (wrap64 (x9 + 1)))
def entrepotref07_Pack.j2 : Nat → Int → Int → List Int → List Int → Int → Int → Int → Int → Bool → Option (List Int × Int)
 | 0, _, _, _, _, _, _, _, _, _ => none
 | k + 1, x0, x1, x2, x8, x9, x10, x11, x12, x41 => if x41 = true then (entrepotref07_Pack.j3 k x0 x1 x2 x8 x9 x10 x10 x9) else (entrepotref07_Pack.j3 k x0 x1 x2 x8 x9 x10 x11 x12)
def entrepotref07_Pack.j3 : Nat → Int → Int → List Int → List Int → Int → Int → Int → Int → Option (List Int × Int)
 | 0, _, _, _, _, _, _, _, _ => none
 | k + 1, x0, x1, x2, x8, x9, x10, x11, x12 => if x0 = 1 then (if x11 = x12 then ((entrepotref07_tells.f k x0 x11 x11).bind fun t193 => (if t193 = true then (entrepotref07_Pack.j4 k x0 x1 x2 x8 x9 x10 x11 x12 false) else (if 0 ≤ (wrap64 ((wrap64 (x11 * x1)) + x11)) then (if (wrap64 ((wrap64 (x11 * x1)) + x11)) < (x2.length : Int) then (entrepotref07_Pack.j4 k x0 x1 x2 x8 x9 x10 x11 x12 ((rd x2 (wrap64 ((wrap64 (x11 * x1)) + x11))) != 0)) else (none)) else (none)))) else (entrepotref07_Pack.j4 k x0 x1 x2 x8 x9 x10 x11 x12 false)) else (if 0 ≤ (wrap64 ((wrap64 (x11 * x1)) + x12)) then (if (wrap64 ((wrap64 (x11 * x1)) + x12)) < (x2.length : Int) then (if 0 ≤ (wrap64 ((wrap64 (x12 * x1)) + x11)) then (if (wrap64 ((wrap64 (x12 * x1)) + x11)) < (x2.length : Int) then (if (rd x2 (wrap64 ((wrap64 (x11 * x1)) + x12))) = (rd x2 (wrap64 ((wrap64 (x12 * x1)) + x11))) then (if x11 = x12 then ((entrepotref07_tells.f k x0 x11 x11).bind fun t197 => (if t197 = true then (entrepotref07_Pack.j4 k x0 x1 x2 x8 x9 x10 x11 x12 false) else (if 0 ≤ (wrap64 ((wrap64 (x11 * x1)) + x11)) then (if (wrap64 ((wrap64 (x11 * x1)) + x11)) < (x2.length : Int) then (entrepotref07_Pack.j4 k x0 x1 x2 x8 x9 x10 x11 x12 ((rd x2 (wrap64 ((wrap64 (x11 * x1)) + x11))) != 0)) else (none)) else (none)))) else (entrepotref07_Pack.j4 k x0 x1 x2 x8 x9 x10 x11 x12 false)) else (entrepotref07_Pack.j4 k x0 x1 x2 x8 x9 x10 x11 x12 true)) else (none)) else (none)) else (none)) else (none))
def entrepotref07_Pack.j4 : Nat → Int → Int → List Int → List Int → Int → Int → Int → Int → Bool → Option (List Int × Int)
 | 0, _, _, _, _, _, _, _, _, _ => none
 | k + 1, x0, x1, x2, x8, x9, x10, x11, x12, x87 => if x87 = true then (some (([] : List Int), 70)) else ((entrepotref07_tells.f k x0 x11 x12).bind fun t199 => (if t199 = true then (if 0 ≤ (wrap64 ((wrap64 (x11 * x1)) + x12)) then (if (wrap64 ((wrap64 (x11 * x1)) + x12)) < (x2.length : Int) then (if x8.length < 17592186044416 then (entrepotref07_Pack.l1 k x0 x1 x2 (x8 ++ [rd x2 (wrap64 ((wrap64 (x11 * x1)) + x12))]) x9 (wrap64 (x10 + 1))) else (none)) else (none)) else (none)) else (entrepotref07_Pack.l1 k x0 x1 x2 x8 x9 (wrap64 (x10 + 1)))))
end
def entrepotref07_Pack.f (k : Nat) (a0 : Int) (a1 : Int) (l2 : List Int) : Option (List Int × Int) := (entrepotref07_may.f a0 a1).bind fun t189 => (if t189 = true then (if (l2.length : Int) = (wrap64 (a1 * a1)) then (entrepotref07_Pack.l0 k a0 a1 l2 (([] : List Int)) 0) else (some (([] : List Int), 70))) else (some (([] : List Int), 1)))
theorem entrepotref07_Pack.mono_l : ∀ k, (∀ y0 y1 y2 y3 y4, LeO (entrepotref07_Pack.l0 k y0 y1 y2 y3 y4) (entrepotref07_Pack.l0 (k + 1) y0 y1 y2 y3 y4)) ∧ (∀ y0 y1 y2 y3 y4 y5, LeO (entrepotref07_Pack.l1 k y0 y1 y2 y3 y4 y5) (entrepotref07_Pack.l1 (k + 1) y0 y1 y2 y3 y4 y5)) ∧ (∀ y0 y1 y2 y3 y4 y5 y6 y7 y8, LeO (entrepotref07_Pack.j2 k y0 y1 y2 y3 y4 y5 y6 y7 y8) (entrepotref07_Pack.j2 (k + 1) y0 y1 y2 y3 y4 y5 y6 y7 y8)) ∧ (∀ y0 y1 y2 y3 y4 y5 y6 y7, LeO (entrepotref07_Pack.j3 k y0 y1 y2 y3 y4 y5 y6 y7) (entrepotref07_Pack.j3 (k + 1) y0 y1 y2 y3 y4 y5 y6 y7)) ∧ (∀ y0 y1 y2 y3 y4 y5 y6 y7 y8, LeO (entrepotref07_Pack.j4 k y0 y1 y2 y3 y4 y5 y6 y7 y8) (entrepotref07_Pack.j4 (k + 1) y0 y1 y2 y3 y4 y5 y6 y7 y8))
 | 0 => ⟨fun _ _ _ _ _ r h => by simp [entrepotref07_Pack.l0] at h, fun _ _ _ _ _ _ r h => by simp [entrepotref07_Pack.l1] at h, fun _ _ _ _ _ _ _ _ _ r h => by simp [entrepotref07_Pack.j2] at h, fun _ _ _ _ _ _ _ _ r h => by simp [entrepotref07_Pack.j3] at h, fun _ _ _ _ _ _ _ _ _ r h => by simp [entrepotref07_Pack.j4] at h⟩
 | k + 1 => by
  obtain ⟨ih0, ih1, ih2, ih3, ih4⟩ := entrepotref07_Pack.mono_l k
  refine ⟨?_, ?_, ?_, ?_, ?_⟩ <;> intros
  all_goals first | unfold entrepotref07_Pack.l0 | unfold entrepotref07_Pack.l1 | unfold entrepotref07_Pack.j2 | unfold entrepotref07_Pack.j3 | unfold entrepotref07_Pack.j4
  all_goals repeat' first
  | (with_reducible exact ih0 _ _ _ _ _)
  | (with_reducible exact ih1 _ _ _ _ _ _)
  | (with_reducible exact ih2 _ _ _ _ _ _ _ _ _)
  | (with_reducible exact ih3 _ _ _ _ _ _ _ _)
  | (with_reducible exact ih4 _ _ _ _ _ _ _ _ _)
  | (with_reducible exact entrepotref07_tells.mono _ _ _ _)
  | (with_reducible exact LeO.refl _)
  | (with_reducible exact LeO.none _)
  | (with_reducible refine LeO.ite ?_ ?_)
  | (with_reducible refine LeO.bind ?_ (fun _ => ?_))
  | exact ih0 _ _ _ _ _
  | exact ih1 _ _ _ _ _ _
  | exact ih2 _ _ _ _ _ _ _ _ _
  | exact ih3 _ _ _ _ _ _ _ _
  | exact ih4 _ _ _ _ _ _ _ _ _
  | exact entrepotref07_tells.mono _ _ _ _
  | exact LeO.none _
  | refine LeO.ite ?_ ?_
  | refine LeO.bind ?_ (fun _ => ?_)
theorem entrepotref07_Pack.mono : ∀ a0 a1 a2 k, LeO (entrepotref07_Pack.f k a0 a1 a2) (entrepotref07_Pack.f (k + 1) a0 a1 a2) := by
 intro a0 a1 a2 k
 obtain ⟨ih0, ih1, ih2, ih3, ih4⟩ := entrepotref07_Pack.mono_l k
 unfold entrepotref07_Pack.f
 repeat' first
   | (with_reducible exact ih0 _ _ _ _ _)
   | (with_reducible exact ih1 _ _ _ _ _ _)
   | (with_reducible exact ih2 _ _ _ _ _ _ _ _ _)
   | (with_reducible exact ih3 _ _ _ _ _ _ _ _)
   | (with_reducible exact ih4 _ _ _ _ _ _ _ _ _)
   | (with_reducible exact entrepotref07_tells.mono _ _ _ _)
   | (with_reducible exact LeO.refl _)
   | (with_reducible exact LeO.none _)
   | (with_reducible refine LeO.ite ?_ ?_)
   | (with_reducible refine LeO.bind ?_ (fun _ => ?_))
   | exact ih0 _ _ _ _ _
   | exact ih1 _ _ _ _ _ _
   | exact ih2 _ _ _ _ _ _ _ _ _
   | exact ih3 _ _ _ _ _ _ _ _
   | exact ih4 _ _ _ _ _ _ _ _ _
   | exact entrepotref07_tells.mono _ _ _ _
   | exact LeO.none _
   | refine LeO.ite ?_ ?_
   | refine LeO.bind ?_ (fun _ => ?_)
def entrepotref07_Pack.T17 : Bool × List (List Nat × List Nat) := (true, [([], []), ([0], [0]), ([1], [1]), ([2], [2]), ([2], [2]), ([2], [2]), ([4, 5, 2], [2, 4, 5]), ([2], [2]), ([6, 7, 2], [2, 6, 7]), ([3, 8, 2], [2, 3, 8]), ([9, 2], [2, 9]), ([2], [2]), ([2], [2]), ([2], [2]), ([12, 13, 2], [2, 12, 13]), ([2], [2]), ([14, 15, 2], [2, 14, 15]), ([11, 16, 2], [2, 11, 16]), ([17, 2], [2, 17]), ([10, 18, 2], [2, 10, 18]), ([2, 19], [2, 19]), ([20, 2], [20]), ([21], [21]), ([21], [21]), ([22, 23, 21], [21, 22, 23]), ([24, 21, 21], [21, 24]), ([25], [25]), ([25], [25]), ([25], [25]), ([26, 27, 28, 25, 25], [25, 26, 27, 28]), ([29, 25], [25, 29]), ([25, 30, 21], [21, 25, 30]), ([31, 29, 21], [21, 31]), ([32], [32]), ([32], [32]), ([32], [32]), ([34, 35, 32], [32, 34, 35]), ([32], [32]), ([36, 37, 32], [32, 36, 37]), ([33, 38, 32], [32, 33, 38]), ([39, 32], [32, 39]), ([40, 32], [32, 40]), ([32, 41, 21], [21, 32, 41]), ([21, 42], [21, 42])])
def entrepotref07_Pack.B17 : List Nat := [0, 1, 3, 7, 7, 7, 55, 7, 247, 511, 1023, 7, 7, 7, 12295, 7, 61447, 129031, 260103, 524287, 1048575, 2097151, 4194303, 4194303, 16777215, 33554431, 67108863, 67108863, 67108863, 536870911, 1073741823, 2147483647, 4294967295, 8589934591, 8589934591, 8589934591, 60129542143, 8589934591, 266287972351, 549755813887, 1099511627775, 2199023255551, 4398046511103, 8796093022207]
theorem entrepotref07_Pack.tab17 : rtab .any (opsOf Tryd.f14 17) = entrepotref07_Pack.T17 := by kernel_rfl
theorem entrepotref07_Pack.bits17 : waitsOk entrepotref07_Pack.T17.2 entrepotref07_Pack.B17 = true := by kernel_rfl
abbrev P0_ : Array Bool := #[false, false, false, false, false, false, false, false, false, false, false, false, false, false, false, false, false, false, false, false, false, false, false, false, false, false, false, false, false, false, false, false, false, false, false, false, false, false, false, false, false, false, false, false]
abbrev P1_ : Array Bool := #[true, false, false, false, false, false, false, false, false, false, false, false, false, false, false, false, false, false, false, false, false, false, false, false, false, false, false, false, false, false, false, false, false, false, false, false, false, false, false, false, false, false, false, false]
abbrev P2_ : Array Bool := #[true, true, false, false, false, false, false, false, false, false, false, false, false, false, false, false, false, false, false, false, false, false, false, false, false, false, false, false, false, false, false, false, false, false, false, false, false, false, false, false, false, false, false, false]
abbrev P3_ : Array Bool := #[true, true, true, false, false, false, false, false, false, false, false, false, false, false, false, false, false, false, false, false, false, false, false, false, false, false, false, false, false, false, false, false, false, false, false, false, false, false, false, false, false, false, false, false]
abbrev P4_ : Array Bool := #[true, true, true, true, false, false, false, false, false, false, false, false, false, false, false, false, false, false, false, false, false, false, false, false, false, false, false, false, false, false, false, false, false, false, false, false, false, false, false, false, false, false, false, false]
abbrev P5_ : Array Bool := #[true, true, true, true, true, false, false, false, false, false, false, false, false, false, false, false, false, false, false, false, false, false, false, false, false, false, false, false, false, false, false, false, false, false, false, false, false, false, false, false, false, false, false, false]
abbrev P6_ : Array Bool := #[true, true, true, true, true, true, false, false, false, false, false, false, false, false, false, false, false, false, false, false, false, false, false, false, false, false, false, false, false, false, false, false, false, false, false, false, false, false, false, false, false, false, false, false]
abbrev P7_ : Array Bool := #[true, true, true, true, true, true, true, false, false, false, false, false, false, false, false, false, false, false, false, false, false, false, false, false, false, false, false, false, false, false, false, false, false, false, false, false, false, false, false, false, false, false, false, false]
abbrev P8_ : Array Bool := #[true, true, true, true, true, true, true, true, false, false, false, false, false, false, false, false, false, false, false, false, false, false, false, false, false, false, false, false, false, false, false, false, false, false, false, false, false, false, false, false, false, false, false, false]
abbrev P9_ : Array Bool := #[true, true, true, true, true, true, true, true, true, false, false, false, false, false, false, false, false, false, false, false, false, false, false, false, false, false, false, false, false, false, false, false, false, false, false, false, false, false, false, false, false, false, false, false]
abbrev P10_ : Array Bool := #[true, true, true, true, true, true, true, true, true, true, false, false, false, false, false, false, false, false, false, false, false, false, false, false, false, false, false, false, false, false, false, false, false, false, false, false, false, false, false, false, false, false, false, false]
abbrev P11_ : Array Bool := #[true, true, true, true, true, true, true, true, true, true, true, false, false, false, false, false, false, false, false, false, false, false, false, false, false, false, false, false, false, false, false, false, false, false, false, false, false, false, false, false, false, false, false, false]
abbrev P12_ : Array Bool := #[true, true, true, true, true, true, true, true, true, true, true, true, false, false, false, false, false, false, false, false, false, false, false, false, false, false, false, false, false, false, false, false, false, false, false, false, false, false, false, false, false, false, false, false]
abbrev P13_ : Array Bool := #[true, true, true, true, true, true, true, true, true, true, true, true, true, false, false, false, false, false, false, false, false, false, false, false, false, false, false, false, false, false, false, false, false, false, false, false, false, false, false, false, false, false, false, false]
abbrev P14_ : Array Bool := #[true, true, true, true, true, true, true, true, true, true, true, true, true, true, false, false, false, false, false, false, false, false, false, false, false, false, false, false, false, false, false, false, false, false, false, false, false, false, false, false, false, false, false, false]
abbrev P15_ : Array Bool := #[true, true, true, true, true, true, true, true, true, true, true, true, true, true, true, false, false, false, false, false, false, false, false, false, false, false, false, false, false, false, false, false, false, false, false, false, false, false, false, false, false, false, false, false]
abbrev P16_ : Array Bool := #[true, true, true, true, true, true, true, true, true, true, true, true, true, true, true, true, false, false, false, false, false, false, false, false, false, false, false, false, false, false, false, false, false, false, false, false, false, false, false, false, false, false, false, false]
abbrev P17_ : Array Bool := #[true, true, true, true, true, true, true, true, true, true, true, true, true, true, true, true, true, false, false, false, false, false, false, false, false, false, false, false, false, false, false, false, false, false, false, false, false, false, false, false, false, false, false, false]
abbrev P18_ : Array Bool := #[true, true, true, true, true, true, true, true, true, true, true, true, true, true, true, true, true, true, false, false, false, false, false, false, false, false, false, false, false, false, false, false, false, false, false, false, false, false, false, false, false, false, false, false]
abbrev P19_ : Array Bool := #[true, true, true, true, true, true, true, true, true, true, true, true, true, true, true, true, true, true, true, false, false, false, false, false, false, false, false, false, false, false, false, false, false, false, false, false, false, false, false, false, false, false, false, false]
abbrev P20_ : Array Bool := #[true, true, true, true, true, true, true, true, true, true, true, true, true, true, true, true, true, true, true, true, false, false, false, false, false, false, false, false, false, false, false, false, false, false, false, false, false, false, false, false, false, false, false, false]
abbrev P21_ : Array Bool := #[true, true, true, true, true, true, true, true, true, true, true, true, true, true, true, true, true, true, true, true, true, false, false, false, false, false, false, false, false, false, false, false, false, false, false, false, false, false, false, false, false, false, false, false]
abbrev P22_ : Array Bool := #[true, true, true, true, true, true, true, true, true, true, true, true, true, true, true, true, true, true, true, true, true, true, false, false, false, false, false, false, false, false, false, false, false, false, false, false, false, false, false, false, false, false, false, false]
abbrev P23_ : Array Bool := #[true, true, true, true, true, true, true, true, true, true, true, true, true, true, true, true, true, true, true, true, true, true, true, false, false, false, false, false, false, false, false, false, false, false, false, false, false, false, false, false, false, false, false, false]
abbrev P24_ : Array Bool := #[true, true, true, true, true, true, true, true, true, true, true, true, true, true, true, true, true, true, true, true, true, true, true, true, false, false, false, false, false, false, false, false, false, false, false, false, false, false, false, false, false, false, false, false]
abbrev P25_ : Array Bool := #[true, true, true, true, true, true, true, true, true, true, true, true, true, true, true, true, true, true, true, true, true, true, true, true, true, false, false, false, false, false, false, false, false, false, false, false, false, false, false, false, false, false, false, false]
abbrev P26_ : Array Bool := #[true, true, true, true, true, true, true, true, true, true, true, true, true, true, true, true, true, true, true, true, true, true, true, true, true, true, false, false, false, false, false, false, false, false, false, false, false, false, false, false, false, false, false, false]
abbrev P27_ : Array Bool := #[true, true, true, true, true, true, true, true, true, true, true, true, true, true, true, true, true, true, true, true, true, true, true, true, true, true, true, false, false, false, false, false, false, false, false, false, false, false, false, false, false, false, false, false]
abbrev P28_ : Array Bool := #[true, true, true, true, true, true, true, true, true, true, true, true, true, true, true, true, true, true, true, true, true, true, true, true, true, true, true, true, false, false, false, false, false, false, false, false, false, false, false, false, false, false, false, false]
abbrev P29_ : Array Bool := #[true, true, true, true, true, true, true, true, true, true, true, true, true, true, true, true, true, true, true, true, true, true, true, true, true, true, true, true, true, false, false, false, false, false, false, false, false, false, false, false, false, false, false, false]
abbrev P30_ : Array Bool := #[true, true, true, true, true, true, true, true, true, true, true, true, true, true, true, true, true, true, true, true, true, true, true, true, true, true, true, true, true, true, false, false, false, false, false, false, false, false, false, false, false, false, false, false]
abbrev P31_ : Array Bool := #[true, true, true, true, true, true, true, true, true, true, true, true, true, true, true, true, true, true, true, true, true, true, true, true, true, true, true, true, true, true, true, false, false, false, false, false, false, false, false, false, false, false, false, false]
abbrev P32_ : Array Bool := #[true, true, true, true, true, true, true, true, true, true, true, true, true, true, true, true, true, true, true, true, true, true, true, true, true, true, true, true, true, true, true, true, false, false, false, false, false, false, false, false, false, false, false, false]
abbrev P33_ : Array Bool := #[true, true, true, true, true, true, true, true, true, true, true, true, true, true, true, true, true, true, true, true, true, true, true, true, true, true, true, true, true, true, true, true, true, false, false, false, false, false, false, false, false, false, false, false]
abbrev P34_ : Array Bool := #[true, true, true, true, true, true, true, true, true, true, true, true, true, true, true, true, true, true, true, true, true, true, true, true, true, true, true, true, true, true, true, true, true, true, false, false, false, false, false, false, false, false, false, false]
abbrev P35_ : Array Bool := #[true, true, true, true, true, true, true, true, true, true, true, true, true, true, true, true, true, true, true, true, true, true, true, true, true, true, true, true, true, true, true, true, true, true, true, false, false, false, false, false, false, false, false, false]
abbrev P36_ : Array Bool := #[true, true, true, true, true, true, true, true, true, true, true, true, true, true, true, true, true, true, true, true, true, true, true, true, true, true, true, true, true, true, true, true, true, true, true, true, false, false, false, false, false, false, false, false]
abbrev P37_ : Array Bool := #[true, true, true, true, true, true, true, true, true, true, true, true, true, true, true, true, true, true, true, true, true, true, true, true, true, true, true, true, true, true, true, true, true, true, true, true, true, false, false, false, false, false, false, false]
abbrev P38_ : Array Bool := #[true, true, true, true, true, true, true, true, true, true, true, true, true, true, true, true, true, true, true, true, true, true, true, true, true, true, true, true, true, true, true, true, true, true, true, true, true, true, false, false, false, false, false, false]
abbrev P39_ : Array Bool := #[true, true, true, true, true, true, true, true, true, true, true, true, true, true, true, true, true, true, true, true, true, true, true, true, true, true, true, true, true, true, true, true, true, true, true, true, true, true, true, false, false, false, false, false]
abbrev P40_ : Array Bool := #[true, true, true, true, true, true, true, true, true, true, true, true, true, true, true, true, true, true, true, true, true, true, true, true, true, true, true, true, true, true, true, true, true, true, true, true, true, true, true, true, false, false, false, false]
abbrev P41_ : Array Bool := #[true, true, true, true, true, true, true, true, true, true, true, true, true, true, true, true, true, true, true, true, true, true, true, true, true, true, true, true, true, true, true, true, true, true, true, true, true, true, true, true, true, false, false, false]
abbrev P42_ : Array Bool := #[true, true, true, true, true, true, true, true, true, true, true, true, true, true, true, true, true, true, true, true, true, true, true, true, true, true, true, true, true, true, true, true, true, true, true, true, true, true, true, true, true, true, false, false]
abbrev P43_ : Array Bool := #[true, true, true, true, true, true, true, true, true, true, true, true, true, true, true, true, true, true, true, true, true, true, true, true, true, true, true, true, true, true, true, true, true, true, true, true, true, true, true, true, true, true, true, false]
abbrev P44_ : Array Bool := #[true, true, true, true, true, true, true, true, true, true, true, true, true, true, true, true, true, true, true, true, true, true, true, true, true, true, true, true, true, true, true, true, true, true, true, true, true, true, true, true, true, true, true, true]
abbrev P45_ : Array Bool := #[true, true, true, true, true, true, true, true, true, true, false, true, false, false, false, false, false, false, false, false, false, false, false, false, false, false, false, false, false, false, false, false, false, false, false, false, false, false, false, false, false, false, false, false]
abbrev P46_ : Array Bool := #[true, true, true, true, true, true, true, true, true, true, false, true, true, false, false, false, false, false, false, false, false, false, false, false, false, false, false, false, false, false, false, false, false, false, false, false, false, false, false, false, false, false, false, false]
abbrev P47_ : Array Bool := #[true, true, true, true, true, true, true, true, true, true, false, true, true, true, false, false, false, false, false, false, false, false, false, false, false, false, false, false, false, false, false, false, false, false, false, false, false, false, false, false, false, false, false, false]
abbrev P48_ : Array Bool := #[true, true, true, true, true, true, true, true, true, true, false, true, true, true, true, false, false, false, false, false, false, false, false, false, false, false, false, false, false, false, false, false, false, false, false, false, false, false, false, false, false, false, false, false]
abbrev P49_ : Array Bool := #[true, true, true, true, true, true, true, true, true, true, false, true, true, true, true, true, false, false, false, false, false, false, false, false, false, false, false, false, false, false, false, false, false, false, false, false, false, false, false, false, false, false, false, false]
abbrev P50_ : Array Bool := #[true, true, true, true, true, true, true, true, true, true, false, true, true, true, true, true, true, false, false, false, false, false, false, false, false, false, false, false, false, false, false, false, false, false, false, false, false, false, false, false, false, false, false, false]
abbrev P51_ : Array Bool := #[true, true, true, true, true, true, true, true, true, true, false, true, true, true, true, true, true, true, false, false, false, false, false, false, false, false, false, false, false, false, false, false, false, false, false, false, false, false, false, false, false, false, false, false]
set_option maxHeartbeats 8000000 in
set_option maxRecDepth 100000 in
theorem entrepotref07_Pack.calls (k : Nat) (a0 : Int) (a1 : Int) (A2 : Option Addr) (c2 : Nat) (l2 : List Int) (r1 : List Int) (r2 : Int) (w : World) (hr2 : Kd.C (Kd.int .i64) w A2 l2.length l2) (hc2 : l2.length ≤ c2) (h : entrepotref07_Pack.f k a0 a1 l2 = some (r1, r2)) :
  Calls Tryd.prog 14 #[.int .i64 a0, .int .i64 a1, .slice A2 l2.length c2] w fun e w' => ∃ v0_ : Value, e = .returned (.tuple #[v0_, .int .i64 r2]) ∧ Kd.R (Kd.int .i64) 3 w' w.heap.size (fun _ => True) v0_ r1 ∧ Below w.heap.size w w' := by
 have HR2 := Am hr2
 have HC2 := Am hc2
 clear hr2 hc2
 have HB := Am (Below.refl w.heap.size w)
 have H : ((entrepotref07_may.f a0 a1).bind fun t189 => (if t189 = true then (if (l2.length : Int) = (wrap64 (a1 * a1)) then (entrepotref07_Pack.l0 k a0 a1 l2 (([] : List Int)) 0) else (some (([] : List Int), 70))) else (some (([] : List Int), 1)))) = some (r1, r2) := h
 clear h
 replace H := Option.bind_eq_some_iff.mp H
 obtain ⟨t189, A40, H⟩ := H
 replace H : (if t189 = true then (if (l2.length : Int) = (wrap64 (a1 * a1)) then (entrepotref07_Pack.l0 k a0 a1 l2 (([] : List Int)) 0) else (some (([] : List Int), 70))) else (some (([] : List Int), 1))) = some (r1, r2) := H
 have A4 := Am A40
 clear A40
 by_cases c5 : t189 = true
 ·subst c5
  have H1 : (if (l2.length : Int) = (wrap64 (a1 * a1)) then (entrepotref07_Pack.l0 k a0 a1 l2 (([] : List Int)) 0) else (some (([] : List Int), 70))) = some (r1, r2) := by rw [if_pos rfl] at H; exact H
  clear H
  have H := H1
  clear H1
  by_cases c6 : (l2.length : Int) = (wrap64 (a1 * a1))
  ·rw [if_pos c6] at H
   have c6b0 : ((l2.length : Int) == (wrap64 (a1 * a1))) = true := beq_iff_eq.mpr c6
   have c6b1 : ((l2.length : Int) != (wrap64 (a1 * a1))) = false := bne_eq_false_iff_eq.mpr c6
   clear c6
   obtain ⟨y190, hy190⟩ : ∃ y_ : List Int, y_ = (([] : List Int)) := ⟨_, rfl⟩
   replace H : (entrepotref07_Pack.l0 k a0 a1 l2 y190 0) = some (r1, r2) := by first | (rw [hy190]; with_reducible exact H) | (have H2_ := (Option.bind_some _ _).symm.trans H; rw [hy190]; with_reducible exact H2_) | (have H2_ := (Option.bind_some _ _).symm.trans H; with_reducible exact H2_) | with_reducible exact H | (rw [hy190]; exact H) | exact H
   have Ny190 := Am hy190
   clear hy190
   have H' := Am H
   clear H
   go_enter Tryd.func14, Tryd.ntmps14
   go_wp2_with (first | ((with_reducible refine gate_callee (f := 24) rfl ?_); refine goesL_ (some 15) rfl rfl Tryd.func24 (by kernel_rfl) rfl #[.int .i64 a0, .int .i64 a1] rfl (by (try simp only [List.map_toArray, List.map_cons, List.map_nil]); first | done | rfl | (simp only [List.length_drop, List.length_take]; rfl)) ?_; (with_reducible refine (entrepotref07_may.calls a0 a1 true _ A4.out).mono ?_); rintro e w' ⟨rfl, ⟨nd, rfl⟩⟩; refine ⟨_, rfl, ?_⟩) | ((with_reducible refine gate_dst (N := 23) rfl ?_); refine Kd.R_lit (Kd.int .i64) _ 3 ?hg (N := 23) ?hd (xs := ([] : List Int)) (inner := []) (ok := fun _ => True) (okp := fun _ => True) ?hr ?hp (fun _ hk => hk) trivial (Below.refl _ _) (Nat.le_refl _) (by simp) ?_; (case hd => rfl); (case hg => rfl); (case hr => first | (go_simp; done) | (go_simp; rfl)); (case hp => exact (Reps.none _ _)); intro v191 w7 ho8 hb hg_ hnew_; clear hg_ hnew_; (first | rw [← Ny190.out] at ho8 | (simp only [Int.reduceToNat] at ho8; rw [← Ny190.out] at ho8)); have n0_ := Am (Kd.R_lower ho8 (below_size (by repeat (first | (with_reducible first | exact HB.out | apply below_alloc | apply pw_below_drewN | apply below_drew1) | exact HB.out)))); have n1_ := Am (below_step (by repeat (first | (with_reducible first | exact HB.out | apply below_alloc | apply pw_below_drewN | apply below_drew1) | exact HB.out)) hb); clear HB; have HO192 := n0_; have HB := n1_; clear n0_ n1_; clear hb ho8))
   go_loopg [8, 9] k (fun kq v8 v9 w' => ∃ (x8_1 : List Int) (x9_1 : Int), v9 = .int .i64 x9_1 ∧ Aside0 (entrepotref07_Pack.l0 kq a0 a1 l2 x8_1 x9_1 = some (r1, r2)) ∧ Aside0 (kq ≤ k) ∧ Aside0 (Kd.R (Kd.int .i64) 3 w' w.heap.size (fun _ => True) v8 x8_1) ∧ Aside0 (Below w.heap.size w w'))
   case atStart => exact ⟨(y190), (0), (by first | rfl | (simp; done) | (simp [*]; done)), H', ⟨Nat.le_refl _⟩, ⟨by (with_reducible repeat (first | apply Kd.R_alloc | apply Kd.R_drewN | apply Kd.R_drew)); exact HO192.out⟩, ⟨by repeat (first | (with_reducible first | exact HB.out | apply below_alloc | apply pw_below_drewN | apply below_drew1) | exact HB.out)⟩⟩
   case round =>
    clear H'
    (try clear c2); (try clear c5); (try clear c6); (try clear c6b0); (try clear c6b1)
    obtain ⟨x8_1, x9_1, rfl, HA, HK1, HO_8, HB⟩ := hrel
    cases gk with
    | zero => exact absurd HA.out (by simp [entrepotref07_Pack.l0])
    | succ k1 =>
     have H := HA.out
     clear HA
     simp only [entrepotref07_Pack.l0] at H
     by_cases c9 : x9_1 < a1
     ·rw [if_pos c9] at H
      have c9b0 : decide (x9_1 < a1) = true := decide_eq_true c9
      clear c9
      have H' := Am H
      clear H
      go_wp2
      go_loopg [8, 10] k1 (fun kq v8 v10 w' => ∃ (x8_2 : List Int) (x10_2 : Int), v10 = .int .i64 x10_2 ∧ Aside0 (entrepotref07_Pack.l1 kq a0 a1 l2 x8_2 x9_1 x10_2 = some (r1, r2)) ∧ Aside0 (kq ≤ k1) ∧ Aside0 (Kd.R (Kd.int .i64) 3 w' w.heap.size (fun _ => True) v8 x8_2) ∧ Aside0 (Below w.heap.size w w'))
      case atStart => exact ⟨(x8_1), (0), (by first | rfl | (simp; done) | (simp [*]; done)), H', ⟨Nat.le_refl _⟩, ⟨by (with_reducible repeat (first | apply Kd.R_alloc | apply Kd.R_drewN | apply Kd.R_drew)); exact HO_8.out⟩, ⟨by repeat (first | (with_reducible first | exact HB.out | apply below_alloc | apply pw_below_drewN | apply below_drew1) | exact HB.out)⟩⟩
      case round =>
       clear H'
       (try clear c9); (try clear c9b0)
       obtain ⟨x8_2, x10_2, rfl, HA, HK2, HO_8, HB⟩ := hrel
       cases gk with
       | zero => exact absurd HA.out (by simp [entrepotref07_Pack.l1])
       | succ k2 =>
        have H := HA.out
        clear HA
        simp only [entrepotref07_Pack.l1] at H
        by_cases c10 : x10_2 < a1
        ·rw [if_pos c10] at H
         have c10b0 : decide (x10_2 < a1) = true := decide_eq_true c10
         clear c10
         have HC11 := Am H
         clear H
         go_upto_region 14 with (fail)
         go_cut [41] (fun v41 wc => ∃ (kq : Nat) (x41_10 : Bool), v41 = .bool x41_10 ∧ Aside0 (entrepotref07_Pack.j2 kq a0 a1 l2 x8_2 x9_1 x10_2 x9_1 x10_2 x41_10 = some (r1, r2)) ∧ Aside0 (kq ≤ k2) ∧ Aside0 (Kd.R (Kd.int .i64) 3 wc w.heap.size (fun _ => True) u8 x8_2) ∧ Aside0 (Below w.heap.size w wc))
         case first =>
          have H := HC11.out
          clear HC11
          by_cases c12 : a0 = 6
          ·rw [if_pos c12] at H
           have c12b0 : (a0 == 6) = true := beq_iff_eq.mpr c12
           have c12b1 : (a0 != 6) = false := bne_eq_false_iff_eq.mpr c12
           clear c12
           (first | rw [c12b0] | (simp only [i64_w, i32_w]; rw [c12b0]) | skip)
           have H' := Am H
           clear H
           go_wp2
           go_meet
           case rel => exact ⟨_, (true), (by first | rfl | (simp; done) | (simp [*]; done)), H', ⟨by have := HK1.out; have := HK2.out; first | omega | exact Nat.le_refl _⟩, ⟨by (with_reducible repeat (first | apply Kd.R_alloc | apply Kd.R_drewN | apply Kd.R_drew)); exact HO_8.out⟩, ⟨by repeat (first | (with_reducible first | exact HB.out | apply below_alloc | apply pw_below_drewN | apply below_drew1) | exact HB.out)⟩⟩
          ·rw [if_neg c12] at H
           have c12b0 : (a0 == 6) = false := beq_eq_false_iff_ne.mpr c12
           have c12b1 : (a0 != 6) = true := bne_iff_ne.mpr c12
           (first | rw [c12b0] | (simp only [i64_w, i32_w]; rw [c12b0]) | skip)
           have H' := Am H
           clear H
           go_wp2
           go_meet
           case rel => exact ⟨_, ((a0 == 7)), (by first | rfl | (simp; done) | (simp [*]; done)), H', ⟨by have := HK1.out; have := HK2.out; first | omega | exact Nat.le_refl _⟩, ⟨by (with_reducible repeat (first | apply Kd.R_alloc | apply Kd.R_drewN | apply Kd.R_drew)); exact HO_8.out⟩, ⟨by repeat (first | (with_reducible first | exact HB.out | apply below_alloc | apply pw_below_drewN | apply below_drew1) | exact HB.out)⟩⟩
         case rest =>
          clear HC11
          (try clear c10); (try clear c10b0)
          obtain ⟨kq, x41_10, rfl, HA, HJ10, HO_8, HB⟩ := hcut
          cases kq with
          | zero => exact absurd HA.out (by simp [entrepotref07_Pack.j2])
          | succ kj10 =>
           have H := HA.out
           clear HA
           simp only [entrepotref07_Pack.j2] at H
           have HC13 := Am H
           clear H
           go_upto_if 41 with (fail)
           go_cut [11, 12] (fun v11 v12 wc => ∃ (kq : Nat) (x11_12 : Int) (x12_12 : Int), v11 = .int .i64 x11_12 ∧ v12 = .int .i64 x12_12 ∧ Aside0 (entrepotref07_Pack.j3 kq a0 a1 l2 x8_2 x9_1 x10_2 x11_12 x12_12 = some (r1, r2)) ∧ Aside0 (kq ≤ kj10) ∧ Aside0 (Kd.R (Kd.int .i64) 3 wc w.heap.size (fun _ => True) u8 x8_2) ∧ Aside0 (Below w.heap.size w wc))
           case first =>
            have H := HC13.out
            clear HC13
            by_cases c14 : x41_10 = true
            ·subst c14
             have H1 : (entrepotref07_Pack.j3 kj10 a0 a1 l2 x8_2 x9_1 x10_2 x10_2 x9_1) = some (r1, r2) := by rw [if_pos rfl] at H; exact H
             clear H
             have H := H1
             clear H1
             have H' := Am H
             clear H
             go_wp2
             go_meet
             case rel => exact ⟨_, (x10_2), (x9_1), (by first | rfl | (simp; done) | (simp [*]; done)), (by first | rfl | (simp; done) | (simp [*]; done)), H', ⟨by have := HK1.out; have := HK2.out; have := HJ10.out; first | omega | exact Nat.le_refl _⟩, ⟨by (with_reducible repeat (first | apply Kd.R_alloc | apply Kd.R_drewN | apply Kd.R_drew)); exact HO_8.out⟩, ⟨by repeat (first | (with_reducible first | exact HB.out | apply below_alloc | apply pw_below_drewN | apply below_drew1) | exact HB.out)⟩⟩
            ·replace c14 := Bool.eq_false_iff.mpr c14
             subst c14
             have H1 : (entrepotref07_Pack.j3 kj10 a0 a1 l2 x8_2 x9_1 x10_2 x9_1 x10_2) = some (r1, r2) := by rw [if_neg (show ¬ (false = true) by decide)] at H; exact H
             clear H
             have H := H1
             clear H1
             have H' := Am H
             clear H
             go_wp2
             go_meet
             case rel => exact ⟨_, (x9_1), (x10_2), (by first | rfl | (simp; done) | (simp [*]; done)), (by first | rfl | (simp; done) | (simp [*]; done)), H', ⟨by have := HK1.out; have := HK2.out; have := HJ10.out; first | omega | exact Nat.le_refl _⟩, ⟨by (with_reducible repeat (first | apply Kd.R_alloc | apply Kd.R_drewN | apply Kd.R_drew)); exact HO_8.out⟩, ⟨by repeat (first | (with_reducible first | exact HB.out | apply below_alloc | apply pw_below_drewN | apply below_drew1) | exact HB.out)⟩⟩
           case rest =>
            clear HC13
            obtain ⟨kq, x11_12, x12_12, rfl, rfl, HA, HJ12, HO_8, HB⟩ := hcut
            cases kq with
            | zero => exact absurd HA.out (by simp [entrepotref07_Pack.j3])
            | succ kj12 =>
             have H := HA.out
             clear HA
             simp only [entrepotref07_Pack.j3] at H
             have HC15 := Am H
             clear H
             go_upto_region 17 with (fail)
             go_cut [87] (fun v87 wc => ∃ (kq : Nat) (x87_14 : Bool), v87 = .bool x87_14 ∧ Aside0 (entrepotref07_Pack.j4 kq a0 a1 l2 x8_2 x9_1 x10_2 x11_12 x12_12 x87_14 = some (r1, r2)) ∧ Aside0 (kq ≤ kj12) ∧ Aside0 (Kd.R (Kd.int .i64) 3 wc w.heap.size (fun _ => True) u8 x8_2) ∧ Aside0 (Below w.heap.size w wc))
             case first =>
              have H := HC15.out
              clear HC15
              by_cases c16 : a0 = 1
              ·rw [if_pos c16] at H
               have c16b0 : (a0 == 1) = true := beq_iff_eq.mpr c16
               have c16b1 : (a0 != 1) = false := bne_eq_false_iff_eq.mpr c16
               clear c16
               (first | rw [c16b0] | (simp only [i64_w, i32_w]; rw [c16b0]) | skip)
               by_cases c17 : x11_12 = x12_12
               ·rw [if_pos c17] at H
                have c17b0 : (x11_12 == x12_12) = true := beq_iff_eq.mpr c17
                have c17b1 : (x11_12 != x12_12) = false := bne_eq_false_iff_eq.mpr c17
                clear c17
                replace H := Option.bind_eq_some_iff.mp H
                obtain ⟨t193, A180, H⟩ := H
                replace H : (if t193 = true then (entrepotref07_Pack.j4 kj12 a0 a1 l2 x8_2 x9_1 x10_2 x11_12 x12_12 false) else (if 0 ≤ (wrap64 ((wrap64 (x11_12 * a1)) + x11_12)) then (if (wrap64 ((wrap64 (x11_12 * a1)) + x11_12)) < (l2.length : Int) then (entrepotref07_Pack.j4 kj12 a0 a1 l2 x8_2 x9_1 x10_2 x11_12 x12_12 ((rd l2 (wrap64 ((wrap64 (x11_12 * a1)) + x11_12))) != 0)) else (none)) else (none))) = some (r1, r2) := H
                have A18 := Am A180
                clear A180
                by_cases c19 : t193 = true
                ·subst c19
                 have H1 : (entrepotref07_Pack.j4 kj12 a0 a1 l2 x8_2 x9_1 x10_2 x11_12 x12_12 false) = some (r1, r2) := by rw [if_pos rfl] at H; exact H
                 clear H
                 have H := H1
                 clear H1
                 have H' := Am H
                 clear H
                 try go_wp2
                 have n0_ := Am (Kd.R_drew HO_8.out)
                 have n1_ := Am (below_drew1 HB.out)
                 clear HO_8
                 clear HB
                 have HO_8 := n0_
                 have HB := n1_
                 clear n0_ n1_
                 refine start_ (n := 44) (S := fun w' => True) (ds := []) P0_ (by kernel_rfl) rfl rfl trivial (fun hHeld => ?_); refine with_tabW entrepotref07_Pack.tab17 entrepotref07_Pack.bits17 (fun HT_ HW_ => ?_)
                 generalize wc.drew = w20 at HO_8 HB hHeld ⊢
                 refine pure_ (i := 0) (N := some 44) (v := ?_) (a' := ?_) P1_ rfl rfl (any_of HT_.out (by kernel_rfl)) (fun _ _ _ h => h) (Or.inl ⟨by rfl, ?_⟩) ?_ ?_
                 rotate_left
                 ·intro w'
                  go_simp
                  with_reducible rfl
                 rotate_left
                 ·simp only [Act.put, s1_, s2_, s3_, i64_w, i32_w]
                  rfl
                 refine pure_ (i := 1) (N := some 45) (v := ?_) (a' := ?_) P2_ rfl rfl (any_of HT_.out (by kernel_rfl)) (fun _ _ _ h => h) (Or.inl ⟨by rfl, ?_⟩) ?_ ?_
                 rotate_left
                 ·intro w'
                  go_simp
                  with_reducible rfl
                 rotate_left
                 ·simp only [Act.put, s1_, s2_, s3_, i64_w, i32_w]
                  rfl
                 refine pure_ (i := 2) (N := some 46) (v := ?_) (a' := ?_) P3_ rfl rfl (any_of HT_.out (by kernel_rfl)) (fun _ _ _ h => h) (Or.inl ⟨by rfl, ?_⟩) ?_ ?_
                 rotate_left
                 ·intro w'
                  go_simp
                  with_reducible rfl
                 rotate_left
                 ·simp only [Act.put, s1_, s2_, s3_, i64_w, i32_w]
                  rfl
                 refine pure_ (i := 3) (N := some 47) (v := undef) (a' := ?_) P4_ rfl rfl (any_of HT_.out (by kernel_rfl)) (fun _ _ _ h => h) (Or.inr ⟨by rfl, rfl⟩) ?_ ?_
                 rotate_left
                 ·simp only [Act.put, s1_, s2_, s3_, i64_w, i32_w]
                  rfl
                 refine pure_ (i := 4) (N := some 48) (v := undef) (a' := ?_) P5_ rfl rfl (any_of HT_.out (by kernel_rfl)) (fun _ _ _ h => h) (Or.inr ⟨by rfl, rfl⟩) ?_ ?_
                 rotate_left
                 ·simp only [Act.put, s1_, s2_, s3_, i64_w, i32_w]
                  rfl
                 refine pure_ (i := 5) (N := some 49) (v := undef) (a' := ?_) P6_ rfl rfl (any_of HT_.out (by kernel_rfl)) (fun _ _ _ h => h) (Or.inr ⟨by rfl, rfl⟩) ?_ ?_
                 rotate_left
                 ·simp only [Act.put, s1_, s2_, s3_, i64_w, i32_w]
                  rfl
                 refine pure_ (i := 6) (N := some 50) (v := undef) (a' := ?_) P7_ rfl rfl (any_of HT_.out (by kernel_rfl)) (fun _ _ _ h => h) (Or.inr ⟨by rfl, rfl⟩) ?_ ?_
                 rotate_left
                 ·simp only [Act.put, s1_, s2_, s3_, i64_w, i32_w]
                  rfl
                 refine pure_ (i := 7) (N := some 51) (v := undef) (a' := ?_) P8_ rfl rfl (any_of HT_.out (by kernel_rfl)) (fun _ _ _ h => h) (Or.inr ⟨by rfl, rfl⟩) ?_ ?_
                 rotate_left
                 ·simp only [Act.put, s1_, s2_, s3_, i64_w, i32_w]
                  rfl
                 refine pure_ (i := 8) (N := some 52) (v := undef) (a' := ?_) P9_ rfl rfl (any_of HT_.out (by kernel_rfl)) (fun _ _ _ h => h) (Or.inr ⟨by rfl, rfl⟩) ?_ ?_
                 rotate_left
                 ·simp only [Act.put, s1_, s2_, s3_, i64_w, i32_w]
                  rfl
                 refine pure_ (i := 9) (N := some 53) (v := undef) (a' := ?_) P10_ rfl rfl (any_of HT_.out (by kernel_rfl)) (fun _ _ _ h => h) (Or.inr ⟨by rfl, rfl⟩) ?_ ?_
                 rotate_left
                 ·simp only [Act.put, s1_, s2_, s3_, i64_w, i32_w]
                  rfl
                 refine pure_ (i := 10) (N := some 54) (v := undef) (a' := ?_) P11_ rfl rfl (any_of HT_.out (by kernel_rfl)) (fun _ _ _ h => h) (Or.inr ⟨by rfl, rfl⟩) ?_ ?_
                 rotate_left
                 ·simp only [Act.put, s1_, s2_, s3_, i64_w, i32_w]
                  rfl
                 refine pure_ (i := 11) (N := some 55) (v := undef) (a' := ?_) P12_ rfl rfl (any_of HT_.out (by kernel_rfl)) (fun _ _ _ h => h) (Or.inr ⟨by rfl, rfl⟩) ?_ ?_
                 rotate_left
                 ·simp only [Act.put, s1_, s2_, s3_, i64_w, i32_w]
                  rfl
                 refine pure_ (i := 12) (N := some 56) (v := undef) (a' := ?_) P13_ rfl rfl (any_of HT_.out (by kernel_rfl)) (fun _ _ _ h => h) (Or.inr ⟨by rfl, rfl⟩) ?_ ?_
                 rotate_left
                 ·simp only [Act.put, s1_, s2_, s3_, i64_w, i32_w]
                  rfl
                 refine pure_ (i := 13) (N := some 57) (v := undef) (a' := ?_) P14_ rfl rfl (any_of HT_.out (by kernel_rfl)) (fun _ _ _ h => h) (Or.inr ⟨by rfl, rfl⟩) ?_ ?_
                 rotate_left
                 ·simp only [Act.put, s1_, s2_, s3_, i64_w, i32_w]
                  rfl
                 refine pure_ (i := 14) (N := some 58) (v := undef) (a' := ?_) P15_ rfl rfl (any_of HT_.out (by kernel_rfl)) (fun _ _ _ h => h) (Or.inr ⟨by rfl, rfl⟩) ?_ ?_
                 rotate_left
                 ·simp only [Act.put, s1_, s2_, s3_, i64_w, i32_w]
                  rfl
                 refine pure_ (i := 15) (N := some 59) (v := undef) (a' := ?_) P16_ rfl rfl (any_of HT_.out (by kernel_rfl)) (fun _ _ _ h => h) (Or.inr ⟨by rfl, rfl⟩) ?_ ?_
                 rotate_left
                 ·simp only [Act.put, s1_, s2_, s3_, i64_w, i32_w]
                  rfl
                 refine pure_ (i := 16) (N := some 60) (v := undef) (a' := ?_) P17_ rfl rfl (any_of HT_.out (by kernel_rfl)) (fun _ _ _ h => h) (Or.inr ⟨by rfl, rfl⟩) ?_ ?_
                 rotate_left
                 ·simp only [Act.put, s1_, s2_, s3_, i64_w, i32_w]
                  rfl
                 refine pure_ (i := 17) (N := some 61) (v := undef) (a' := ?_) P18_ rfl rfl (any_of HT_.out (by kernel_rfl)) (fun _ _ _ h => h) (Or.inr ⟨by rfl, rfl⟩) ?_ ?_
                 rotate_left
                 ·simp only [Act.put, s1_, s2_, s3_, i64_w, i32_w]
                  rfl
                 refine pure_ (i := 18) (N := some 62) (v := undef) (a' := ?_) P19_ rfl rfl (any_of HT_.out (by kernel_rfl)) (fun _ _ _ h => h) (Or.inr ⟨by rfl, rfl⟩) ?_ ?_
                 rotate_left
                 ·simp only [Act.put, s1_, s2_, s3_, i64_w, i32_w]
                  rfl
                 refine pure_ (i := 19) (N := some 63) (v := undef) (a' := ?_) P20_ rfl rfl (any_of HT_.out (by kernel_rfl)) (fun _ _ _ h => h) (Or.inr ⟨by rfl, rfl⟩) ?_ ?_
                 rotate_left
                 ·simp only [Act.put, s1_, s2_, s3_, i64_w, i32_w]
                  rfl
                 refine pure_ (i := 20) (N := some 64) (v := ?_) (a' := ?_) P21_ rfl rfl (any_of HT_.out (by kernel_rfl)) (fun _ _ _ h => h) (Or.inl ⟨by rfl, ?_⟩) ?_ ?_
                 rotate_left
                 ·intro w'
                  go_simp
                  with_reducible rfl
                 rotate_left
                 ·simp only [Act.put, s1_, s2_, s3_, i64_w, i32_w]
                  rfl
                 refine pure_ (i := 21) (N := some 65) (v := ?_) (a' := ?_) P22_ rfl rfl (any_of HT_.out (by kernel_rfl)) (fun _ _ _ h => h) (Or.inl ⟨by rfl, ?_⟩) ?_ ?_
                 rotate_left
                 ·intro w'
                  go_simp
                  with_reducible rfl
                 rotate_left
                 ·simp only [Act.put, s1_, s2_, s3_, i64_w, i32_w]
                  rfl
                 refine pure_ (i := 22) (N := some 66) (v := ?_) (a' := ?_) P23_ rfl rfl (any_of HT_.out (by kernel_rfl)) (fun _ _ _ h => h) (Or.inl ⟨by rfl, ?_⟩) ?_ ?_
                 rotate_left
                 ·intro w'
                  go_simp
                  with_reducible rfl
                 rotate_left
                 ·simp only [Act.put, s1_, s2_, s3_, i64_w, i32_w]
                  rfl
                 refine pure_ (i := 23) (N := some 67) (v := ?_) (a' := ?_) P24_ rfl rfl (any_of HT_.out (by kernel_rfl)) (fun _ _ _ h => h) (Or.inl ⟨by rfl, ?_⟩) ?_ ?_
                 rotate_left
                 ·intro w'
                  go_simp
                  with_reducible rfl
                 rotate_left
                 ·simp only [Act.put, s1_, s2_, s3_, i64_w, i32_w]
                  rfl
                 refine pure_ (i := 24) (N := some 68) (v := ?_) (a' := ?_) P25_ rfl rfl (any_of HT_.out (by kernel_rfl)) (fun _ _ _ h => h) (Or.inl ⟨by rfl, ?_⟩) ?_ ?_
                 rotate_left
                 ·intro w'
                  go_simp
                  with_reducible rfl
                 rotate_left
                 ·simp only [Act.put, s1_, s2_, s3_, i64_w, i32_w]
                  rfl
                 refine pure_ (i := 25) (N := some 69) (v := ?_) (a' := ?_) P26_ rfl rfl (any_of HT_.out (by kernel_rfl)) (fun _ _ _ h => h) (Or.inl ⟨by rfl, ?_⟩) ?_ ?_
                 rotate_left
                 ·intro w'
                  go_simp
                  with_reducible rfl
                 rotate_left
                 ·simp only [Act.put, s1_, s2_, s3_, i64_w, i32_w]
                  rfl
                 refine pure_ (i := 26) (N := some 70) (v := ?_) (a' := ?_) P27_ rfl rfl (any_of HT_.out (by kernel_rfl)) (fun _ _ _ h => h) (Or.inl ⟨by rfl, ?_⟩) ?_ ?_
                 rotate_left
                 ·intro w'
                  go_simp
                  with_reducible rfl
                 rotate_left
                 ·simp only [Act.put, s1_, s2_, s3_, i64_w, i32_w]
                  rfl
                 refine pure_ (i := 27) (N := some 71) (v := ?_) (a' := ?_) P28_ rfl rfl (any_of HT_.out (by kernel_rfl)) (fun _ _ _ h => h) (Or.inl ⟨by rfl, ?_⟩) ?_ ?_
                 rotate_left
                 ·intro w'
                  go_simp
                  with_reducible rfl
                 rotate_left
                 ·simp only [Act.put, s1_, s2_, s3_, i64_w, i32_w]
                  rfl
                 refine pure_ (i := 28) (N := some 72) (v := ?_) (a' := ?_) P29_ rfl rfl (any_of HT_.out (by kernel_rfl)) (fun _ _ _ h => h) (Or.inl ⟨by rfl, ?_⟩) ?_ ?_
                 rotate_left
                 ·intro w'
                  go_simp
                  with_reducible rfl
                 rotate_left
                 ·simp only [Act.put, s1_, s2_, s3_, i64_w, i32_w]
                  rfl
                 refine one_ (i := 29) (N := some 73) P30_ rfl rfl (one_of HT_.out (by kernel_rfl)) (by decide) (fun K hK => ?_)
                 refine goes_ Tryd.func25 (by kernel_rfl) rfl #[.int .i64 a0, .int .i64 x11_12, .int .i64 x11_12] (by rfl) rfl rfl (by (try simp only [List.map_toArray, List.map_cons, List.map_nil]); first | done | rfl | (simp only [List.length_drop, List.length_take]; rfl)) ?_
                 with_reducible refine (entrepotref07_tells.calls kj12 a0 x11_12 x11_12 true _ A18.out).mono ?_
                 rintro e w' ⟨rfl, ⟨nd, rfl⟩⟩
                 refine ⟨_, rfl, ?_⟩
                 refine hK.out _ _ trivial (fun hHeld => ?_)
                 clear hK K
                 refine norm_ (a' := ?_) ?_ ?_
                 rotate_left
                 ·show Act.put _ (some 73) _ = _
                  simp only [Act.put, s1_, s2_, s3_, i64_w, i32_w]
                  rfl
                 refine pure_ (i := 30) (N := some 74) (v := ?_) (a' := ?_) P31_ rfl rfl (any_of HT_.out (by kernel_rfl)) (fun _ _ _ h => h) (Or.inl ⟨by rfl, ?_⟩) ?_ ?_
                 rotate_left
                 ·intro w'
                  go_simp
                  with_reducible rfl
                 rotate_left
                 ·simp only [Act.put, s1_, s2_, s3_, i64_w, i32_w]
                  rfl
                 refine pure_ (i := 31) (N := some 75) (v := ?_) (a' := ?_) P32_ rfl rfl (any_of HT_.out (by kernel_rfl)) (fun _ _ _ h => h) (Or.inl ⟨by rfl, ?_⟩) ?_ ?_
                 rotate_left
                 ·intro w'
                  go_simp
                  with_reducible rfl
                 rotate_left
                 ·simp only [Act.put, s1_, s2_, s3_, i64_w, i32_w]
                  rfl
                 refine pure_ (i := 32) (N := some 76) (v := ?_) (a' := ?_) P33_ rfl rfl (any_of HT_.out (by kernel_rfl)) (fun _ _ _ h => h) (Or.inl ⟨by rfl, ?_⟩) ?_ ?_
                 rotate_left
                 ·intro w'
                  go_simp
                  with_reducible rfl
                 rotate_left
                 ·simp only [Act.put, s1_, s2_, s3_, i64_w, i32_w]
                  rfl
                 refine pure_ (i := 33) (N := some 77) (v := undef) (a' := ?_) P34_ rfl rfl (any_of HT_.out (by kernel_rfl)) (fun _ _ _ h => h) (Or.inr ⟨by rfl, rfl⟩) ?_ ?_
                 rotate_left
                 ·simp only [Act.put, s1_, s2_, s3_, i64_w, i32_w]
                  rfl
                 refine pure_ (i := 34) (N := some 78) (v := undef) (a' := ?_) P35_ rfl rfl (any_of HT_.out (by kernel_rfl)) (fun _ _ _ h => h) (Or.inr ⟨by rfl, rfl⟩) ?_ ?_
                 rotate_left
                 ·simp only [Act.put, s1_, s2_, s3_, i64_w, i32_w]
                  rfl
                 refine pure_ (i := 35) (N := some 79) (v := undef) (a' := ?_) P36_ rfl rfl (any_of HT_.out (by kernel_rfl)) (fun _ _ _ h => h) (Or.inr ⟨by rfl, rfl⟩) ?_ ?_
                 rotate_left
                 ·simp only [Act.put, s1_, s2_, s3_, i64_w, i32_w]
                  rfl
                 refine pure_ (i := 36) (N := some 80) (v := undef) (a' := ?_) P37_ rfl rfl (any_of HT_.out (by kernel_rfl)) (fun _ _ _ h => h) (Or.inr ⟨by rfl, rfl⟩) ?_ ?_
                 rotate_left
                 ·simp only [Act.put, s1_, s2_, s3_, i64_w, i32_w]
                  rfl
                 refine pure_ (i := 37) (N := some 81) (v := undef) (a' := ?_) P38_ rfl rfl (any_of HT_.out (by kernel_rfl)) (fun _ _ _ h => h) (Or.inr ⟨by rfl, rfl⟩) ?_ ?_
                 rotate_left
                 ·simp only [Act.put, s1_, s2_, s3_, i64_w, i32_w]
                  rfl
                 refine pure_ (i := 38) (N := some 82) (v := undef) (a' := ?_) P39_ rfl rfl (any_of HT_.out (by kernel_rfl)) (fun _ _ _ h => h) (Or.inr ⟨by rfl, rfl⟩) ?_ ?_
                 rotate_left
                 ·simp only [Act.put, s1_, s2_, s3_, i64_w, i32_w]
                  rfl
                 refine pure_ (i := 39) (N := some 83) (v := undef) (a' := ?_) P40_ rfl rfl (any_of HT_.out (by kernel_rfl)) (fun _ _ _ h => h) (Or.inr ⟨by rfl, rfl⟩) ?_ ?_
                 rotate_left
                 ·simp only [Act.put, s1_, s2_, s3_, i64_w, i32_w]
                  rfl
                 refine pure_ (i := 40) (N := some 84) (v := undef) (a' := ?_) P41_ rfl rfl (any_of HT_.out (by kernel_rfl)) (fun _ _ _ h => h) (Or.inr ⟨by rfl, rfl⟩) ?_ ?_
                 rotate_left
                 ·simp only [Act.put, s1_, s2_, s3_, i64_w, i32_w]
                  rfl
                 refine pure_ (i := 41) (N := some 85) (v := undef) (a' := ?_) P42_ rfl rfl (any_of HT_.out (by kernel_rfl)) (fun _ _ _ h => h) (Or.inr ⟨by rfl, rfl⟩) ?_ ?_
                 rotate_left
                 ·simp only [Act.put, s1_, s2_, s3_, i64_w, i32_w]
                  rfl
                 refine pure_ (i := 42) (N := some 86) (v := ?_) (a' := ?_) P43_ rfl rfl (any_of HT_.out (by kernel_rfl)) (fun _ _ _ h => h) (Or.inl ⟨by rfl, ?_⟩) ?_ ?_
                 rotate_left
                 ·intro w'
                  go_simp
                  with_reducible rfl
                 rotate_left
                 ·simp only [Act.put, s1_, s2_, s3_, i64_w, i32_w]
                  rfl
                 refine pure_ (i := 43) (N := some 87) (v := ?_) (a' := ?_) P44_ rfl rfl (any_of HT_.out (by kernel_rfl)) (fun _ _ _ h => h) (Or.inl ⟨by rfl, ?_⟩) ?_ ?_
                 rotate_left
                 ·intro w'
                  go_simp
                  with_reducible rfl
                 rotate_left
                 ·simp only [Act.put, s1_, s2_, s3_, i64_w, i32_w]
                  rfl
                 refine done_ (done_of HT_.out (by kernel_rfl)) ?_
                 try go_wp2
                 go_meet
                 case rel => exact ⟨_, (false), (by first | rfl | (simp; done) | (simp [*]; done)), H', ⟨by have := HK1.out; have := HK2.out; have := HJ10.out; have := HJ12.out; first | omega | exact Nat.le_refl _⟩, ⟨by (with_reducible repeat (first | apply Kd.R_alloc | apply Kd.R_drewN | apply Kd.R_drew)); exact HO_8.out⟩, ⟨by repeat (first | (with_reducible first | exact HB.out | apply below_alloc | apply pw_below_drewN | apply below_drew1) | exact HB.out)⟩⟩
                ·replace c19 := Bool.eq_false_iff.mpr c19
                 subst c19
                 have H1 : (if 0 ≤ (wrap64 ((wrap64 (x11_12 * a1)) + x11_12)) then (if (wrap64 ((wrap64 (x11_12 * a1)) + x11_12)) < (l2.length : Int) then (entrepotref07_Pack.j4 kj12 a0 a1 l2 x8_2 x9_1 x10_2 x11_12 x12_12 ((rd l2 (wrap64 ((wrap64 (x11_12 * a1)) + x11_12))) != 0)) else (none)) else (none)) = some (r1, r2) := by rw [if_neg (show ¬ (false = true) by decide)] at H; exact H
                 clear H
                 have H := H1
                 clear H1
                 obtain ⟨ji21, hji21⟩ : ∃ j_ : Int, (wrap64 ((wrap64 (x11_12 * a1)) + x11_12)) = j_ := ⟨_, rfl⟩
                 replace H : (if 0 ≤ (ji21) then (if (ji21) < (l2.length : Int) then (entrepotref07_Pack.j4 kj12 a0 a1 l2 x8_2 x9_1 x10_2 x11_12 x12_12 ((rd l2 (ji21)) != 0)) else (none)) else (none)) = some (r1, r2) := by first | (rw [hji21] at H; exact H) | (simp only [hji21] at H ⊢; exact H)
                 (try rw [hji21] at A18)
                 have hji21w : (IntKind.i64.wrap ((wrap64 (x11_12 * a1)) + x11_12)) = ji21 := (i64_w _).trans hji21
                 by_cases c22 : 0 ≤ (ji21)
                 ·rw [if_pos c22] at H
                  have c22b0 : decide (0 ≤ (ji21)) = true := decide_eq_true c22
                  clear c22
                  by_cases c23 : (ji21) < (l2.length : Int)
                  ·rw [if_pos c23] at H
                   have c23b0 : decide ((ji21) < (l2.length : Int)) = true := decide_eq_true c23
                   clear c23
                   have H' := Am H
                   clear H
                   try go_wp2
                   have n0_ := Am (Kd.R_drew HO_8.out)
                   have n1_ := Am (below_drew1 HB.out)
                   clear HO_8
                   clear HB
                   have HO_8 := n0_
                   have HB := n1_
                   clear n0_ n1_
                   have p194 : 0 ≤ ((ji21) : Int) := of_decide_eq_true (by first | (with_reducible assumption) | assumption)
                   have q194 : (ji21) < (l2.length : Int) := of_decide_eq_true (by first | (with_reducible assumption) | assumption)
                   obtain ⟨ad194, e194, hx194_0⟩ := Kd.at_int HR2.out (ji21) p194 q194
                   have hw194_0 := hx194_0
                   cases e194
                   replace hx194_0 := (HB.out.cell (World.block_lt_of_cell? w _ hx194_0)).trans hx194_0
                   replace p194 := eq_true p194
                   replace q194 := eq_true q194
                   refine start_ (n := 44) (S := fun w' => w'.cell? (ad194.add ((ji21)).toNat) = some (.int .i64 (rd l2 (ji21)))) (ds := []) P0_ (by kernel_rfl) rfl rfl (((HB.out.cell (World.block_lt_of_cell? w _ hw194_0)).trans hw194_0)) (fun hHeld => ?_); refine with_tabW entrepotref07_Pack.tab17 entrepotref07_Pack.bits17 (fun HT_ HW_ => ?_)
                   generalize wc.drew = w24 at HO_8 HB hx194_0 hHeld ⊢
                   refine pure_ (i := 0) (N := some 44) (v := ?_) (a' := ?_) P1_ rfl rfl (any_of HT_.out (by kernel_rfl)) (fun _ _ _ h => h) (Or.inl ⟨by rfl, ?_⟩) ?_ ?_
                   rotate_left
                   ·intro w'
                    go_simp
                    with_reducible rfl
                   rotate_left
                   ·simp only [Act.put, s1_, s2_, s3_, i64_w, i32_w]
                    rfl
                   refine pure_ (i := 1) (N := some 45) (v := ?_) (a' := ?_) P2_ rfl rfl (any_of HT_.out (by kernel_rfl)) (fun _ _ _ h => h) (Or.inl ⟨by rfl, ?_⟩) ?_ ?_
                   rotate_left
                   ·intro w'
                    go_simp
                    with_reducible rfl
                   rotate_left
                   ·simp only [Act.put, s1_, s2_, s3_, i64_w, i32_w]
                    rfl
                   refine pure_ (i := 2) (N := some 46) (v := ?_) (a' := ?_) P3_ rfl rfl (any_of HT_.out (by kernel_rfl)) (fun _ _ _ h => h) (Or.inl ⟨by rfl, ?_⟩) ?_ ?_
                   rotate_left
                   ·intro w'
                    go_simp
                    with_reducible rfl
                   rotate_left
                   ·simp only [Act.put, s1_, s2_, s3_, i64_w, i32_w]
                    rfl
                   refine pure_ (i := 3) (N := some 47) (v := undef) (a' := ?_) P4_ rfl rfl (any_of HT_.out (by kernel_rfl)) (fun _ _ _ h => h) (Or.inr ⟨by rfl, rfl⟩) ?_ ?_
                   rotate_left
                   ·simp only [Act.put, s1_, s2_, s3_, i64_w, i32_w]
                    rfl
                   refine pure_ (i := 4) (N := some 48) (v := undef) (a' := ?_) P5_ rfl rfl (any_of HT_.out (by kernel_rfl)) (fun _ _ _ h => h) (Or.inr ⟨by rfl, rfl⟩) ?_ ?_
                   rotate_left
                   ·simp only [Act.put, s1_, s2_, s3_, i64_w, i32_w]
                    rfl
                   refine pure_ (i := 5) (N := some 49) (v := undef) (a' := ?_) P6_ rfl rfl (any_of HT_.out (by kernel_rfl)) (fun _ _ _ h => h) (Or.inr ⟨by rfl, rfl⟩) ?_ ?_
                   rotate_left
                   ·simp only [Act.put, s1_, s2_, s3_, i64_w, i32_w]
                    rfl
                   refine pure_ (i := 6) (N := some 50) (v := undef) (a' := ?_) P7_ rfl rfl (any_of HT_.out (by kernel_rfl)) (fun _ _ _ h => h) (Or.inr ⟨by rfl, rfl⟩) ?_ ?_
                   rotate_left
                   ·simp only [Act.put, s1_, s2_, s3_, i64_w, i32_w]
                    rfl
                   refine pure_ (i := 7) (N := some 51) (v := undef) (a' := ?_) P8_ rfl rfl (any_of HT_.out (by kernel_rfl)) (fun _ _ _ h => h) (Or.inr ⟨by rfl, rfl⟩) ?_ ?_
                   rotate_left
                   ·simp only [Act.put, s1_, s2_, s3_, i64_w, i32_w]
                    rfl
                   refine pure_ (i := 8) (N := some 52) (v := undef) (a' := ?_) P9_ rfl rfl (any_of HT_.out (by kernel_rfl)) (fun _ _ _ h => h) (Or.inr ⟨by rfl, rfl⟩) ?_ ?_
                   rotate_left
                   ·simp only [Act.put, s1_, s2_, s3_, i64_w, i32_w]
                    rfl
                   refine pure_ (i := 9) (N := some 53) (v := undef) (a' := ?_) P10_ rfl rfl (any_of HT_.out (by kernel_rfl)) (fun _ _ _ h => h) (Or.inr ⟨by rfl, rfl⟩) ?_ ?_
                   rotate_left
                   ·simp only [Act.put, s1_, s2_, s3_, i64_w, i32_w]
                    rfl
                   refine pure_ (i := 10) (N := some 54) (v := undef) (a' := ?_) P11_ rfl rfl (any_of HT_.out (by kernel_rfl)) (fun _ _ _ h => h) (Or.inr ⟨by rfl, rfl⟩) ?_ ?_
                   rotate_left
                   ·simp only [Act.put, s1_, s2_, s3_, i64_w, i32_w]
                    rfl
                   refine pure_ (i := 11) (N := some 55) (v := undef) (a' := ?_) P12_ rfl rfl (any_of HT_.out (by kernel_rfl)) (fun _ _ _ h => h) (Or.inr ⟨by rfl, rfl⟩) ?_ ?_
                   rotate_left
                   ·simp only [Act.put, s1_, s2_, s3_, i64_w, i32_w]
                    rfl
                   refine pure_ (i := 12) (N := some 56) (v := undef) (a' := ?_) P13_ rfl rfl (any_of HT_.out (by kernel_rfl)) (fun _ _ _ h => h) (Or.inr ⟨by rfl, rfl⟩) ?_ ?_
                   rotate_left
                   ·simp only [Act.put, s1_, s2_, s3_, i64_w, i32_w]
                    rfl
                   refine pure_ (i := 13) (N := some 57) (v := undef) (a' := ?_) P14_ rfl rfl (any_of HT_.out (by kernel_rfl)) (fun _ _ _ h => h) (Or.inr ⟨by rfl, rfl⟩) ?_ ?_
                   rotate_left
                   ·simp only [Act.put, s1_, s2_, s3_, i64_w, i32_w]
                    rfl
                   refine pure_ (i := 14) (N := some 58) (v := undef) (a' := ?_) P15_ rfl rfl (any_of HT_.out (by kernel_rfl)) (fun _ _ _ h => h) (Or.inr ⟨by rfl, rfl⟩) ?_ ?_
                   rotate_left
                   ·simp only [Act.put, s1_, s2_, s3_, i64_w, i32_w]
                    rfl
                   refine pure_ (i := 15) (N := some 59) (v := undef) (a' := ?_) P16_ rfl rfl (any_of HT_.out (by kernel_rfl)) (fun _ _ _ h => h) (Or.inr ⟨by rfl, rfl⟩) ?_ ?_
                   rotate_left
                   ·simp only [Act.put, s1_, s2_, s3_, i64_w, i32_w]
                    rfl
                   refine pure_ (i := 16) (N := some 60) (v := undef) (a' := ?_) P17_ rfl rfl (any_of HT_.out (by kernel_rfl)) (fun _ _ _ h => h) (Or.inr ⟨by rfl, rfl⟩) ?_ ?_
                   rotate_left
                   ·simp only [Act.put, s1_, s2_, s3_, i64_w, i32_w]
                    rfl
                   refine pure_ (i := 17) (N := some 61) (v := undef) (a' := ?_) P18_ rfl rfl (any_of HT_.out (by kernel_rfl)) (fun _ _ _ h => h) (Or.inr ⟨by rfl, rfl⟩) ?_ ?_
                   rotate_left
                   ·simp only [Act.put, s1_, s2_, s3_, i64_w, i32_w]
                    rfl
                   refine pure_ (i := 18) (N := some 62) (v := undef) (a' := ?_) P19_ rfl rfl (any_of HT_.out (by kernel_rfl)) (fun _ _ _ h => h) (Or.inr ⟨by rfl, rfl⟩) ?_ ?_
                   rotate_left
                   ·simp only [Act.put, s1_, s2_, s3_, i64_w, i32_w]
                    rfl
                   refine pure_ (i := 19) (N := some 63) (v := undef) (a' := ?_) P20_ rfl rfl (any_of HT_.out (by kernel_rfl)) (fun _ _ _ h => h) (Or.inr ⟨by rfl, rfl⟩) ?_ ?_
                   rotate_left
                   ·simp only [Act.put, s1_, s2_, s3_, i64_w, i32_w]
                    rfl
                   refine pure_ (i := 20) (N := some 64) (v := ?_) (a' := ?_) P21_ rfl rfl (any_of HT_.out (by kernel_rfl)) (fun _ _ _ h => h) (Or.inl ⟨by rfl, ?_⟩) ?_ ?_
                   rotate_left
                   ·intro w'
                    go_simp
                    with_reducible rfl
                   rotate_left
                   ·simp only [Act.put, s1_, s2_, s3_, i64_w, i32_w]
                    rfl
                   refine pure_ (i := 21) (N := some 65) (v := ?_) (a' := ?_) P22_ rfl rfl (any_of HT_.out (by kernel_rfl)) (fun _ _ _ h => h) (Or.inl ⟨by rfl, ?_⟩) ?_ ?_
                   rotate_left
                   ·intro w'
                    go_simp
                    with_reducible rfl
                   rotate_left
                   ·simp only [Act.put, s1_, s2_, s3_, i64_w, i32_w]
                    rfl
                   refine pure_ (i := 22) (N := some 66) (v := ?_) (a' := ?_) P23_ rfl rfl (any_of HT_.out (by kernel_rfl)) (fun _ _ _ h => h) (Or.inl ⟨by rfl, ?_⟩) ?_ ?_
                   rotate_left
                   ·intro w'
                    go_simp
                    with_reducible rfl
                   rotate_left
                   ·simp only [Act.put, s1_, s2_, s3_, i64_w, i32_w]
                    rfl
                   refine pure_ (i := 23) (N := some 67) (v := ?_) (a' := ?_) P24_ rfl rfl (any_of HT_.out (by kernel_rfl)) (fun _ _ _ h => h) (Or.inl ⟨by rfl, ?_⟩) ?_ ?_
                   rotate_left
                   ·intro w'
                    go_simp
                    with_reducible rfl
                   rotate_left
                   ·simp only [Act.put, s1_, s2_, s3_, i64_w, i32_w]
                    rfl
                   refine pure_ (i := 24) (N := some 68) (v := ?_) (a' := ?_) P25_ rfl rfl (any_of HT_.out (by kernel_rfl)) (fun _ _ _ h => h) (Or.inl ⟨by rfl, ?_⟩) ?_ ?_
                   rotate_left
                   ·intro w'
                    go_simp
                    with_reducible rfl
                   rotate_left
                   ·simp only [Act.put, s1_, s2_, s3_, i64_w, i32_w]
                    rfl
                   refine pure_ (i := 25) (N := some 69) (v := ?_) (a' := ?_) P26_ rfl rfl (any_of HT_.out (by kernel_rfl)) (fun _ _ _ h => h) (Or.inl ⟨by rfl, ?_⟩) ?_ ?_
                   rotate_left
                   ·intro w'
                    go_simp
                    with_reducible rfl
                   rotate_left
                   ·simp only [Act.put, s1_, s2_, s3_, i64_w, i32_w]
                    rfl
                   refine pure_ (i := 26) (N := some 70) (v := ?_) (a' := ?_) P27_ rfl rfl (any_of HT_.out (by kernel_rfl)) (fun _ _ _ h => h) (Or.inl ⟨by rfl, ?_⟩) ?_ ?_
                   rotate_left
                   ·intro w'
                    go_simp
                    with_reducible rfl
                   rotate_left
                   ·simp only [Act.put, s1_, s2_, s3_, i64_w, i32_w]
                    rfl
                   refine pure_ (i := 27) (N := some 71) (v := ?_) (a' := ?_) P28_ rfl rfl (any_of HT_.out (by kernel_rfl)) (fun _ _ _ h => h) (Or.inl ⟨by rfl, ?_⟩) ?_ ?_
                   rotate_left
                   ·intro w'
                    go_simp
                    with_reducible rfl
                   rotate_left
                   ·simp only [Act.put, s1_, s2_, s3_, i64_w, i32_w]
                    rfl
                   refine pure_ (i := 28) (N := some 72) (v := ?_) (a' := ?_) P29_ rfl rfl (any_of HT_.out (by kernel_rfl)) (fun _ _ _ h => h) (Or.inl ⟨by rfl, ?_⟩) ?_ ?_
                   rotate_left
                   ·intro w'
                    go_simp
                    with_reducible rfl
                   rotate_left
                   ·simp only [Act.put, s1_, s2_, s3_, i64_w, i32_w]
                    rfl
                   refine one_ (i := 29) (N := some 73) P30_ rfl rfl (one_of HT_.out (by kernel_rfl)) (by decide) (fun K hK => ?_)
                   refine goes_ Tryd.func25 (by kernel_rfl) rfl #[.int .i64 a0, .int .i64 x11_12, .int .i64 x11_12] (by rfl) rfl rfl (by (try simp only [List.map_toArray, List.map_cons, List.map_nil]); first | done | rfl | (simp only [List.length_drop, List.length_take]; rfl)) ?_
                   with_reducible refine (entrepotref07_tells.calls kj12 a0 x11_12 x11_12 false _ A18.out).mono ?_
                   rintro e w' ⟨rfl, ⟨nd, rfl⟩⟩
                   refine ⟨_, rfl, ?_⟩
                   refine hK.out _ _ (((HB.out.cell (World.block_lt_of_cell? w _ hw194_0)).trans hw194_0)) (fun hHeld => ?_)
                   clear hK K
                   refine norm_ (a' := ?_) ?_ ?_
                   rotate_left
                   ·show Act.put _ (some 73) _ = _
                    simp only [Act.put, s1_, s2_, s3_, i64_w, i32_w]
                    rfl
                   refine pure_ (i := 30) (N := some 74) (v := ?_) (a' := ?_) P31_ rfl rfl (any_of HT_.out (by kernel_rfl)) (fun _ _ _ h => h) (Or.inl ⟨by rfl, ?_⟩) ?_ ?_
                   rotate_left
                   ·intro w'
                    go_simp
                    with_reducible rfl
                   rotate_left
                   ·simp only [Act.put, s1_, s2_, s3_, i64_w, i32_w]
                    rfl
                   refine pure_ (i := 31) (N := some 75) (v := ?_) (a' := ?_) P32_ rfl rfl (any_of HT_.out (by kernel_rfl)) (fun _ _ _ h => h) (Or.inl ⟨by rfl, ?_⟩) ?_ ?_
                   rotate_left
                   ·intro w'
                    go_simp
                    with_reducible rfl
                   rotate_left
                   ·simp only [Act.put, s1_, s2_, s3_, i64_w, i32_w]
                    rfl
                   refine pure_ (i := 32) (N := some 76) (v := ?_) (a' := ?_) P33_ rfl rfl (any_of HT_.out (by kernel_rfl)) (fun _ _ _ h => h) (Or.inl ⟨by rfl, ?_⟩) ?_ ?_
                   rotate_left
                   ·intro w'
                    go_simp
                    with_reducible rfl
                   rotate_left
                   ·simp only [Act.put, s1_, s2_, s3_, i64_w, i32_w]
                    rfl
                   refine pure_ (i := 33) (N := some 77) (v := ?_) (a' := ?_) P34_ rfl rfl (any_of HT_.out (by kernel_rfl)) (fun _ _ _ h => h) (Or.inl ⟨by rfl, ?_⟩) ?_ ?_
                   rotate_left
                   ·intro w'
                    go_simp
                    with_reducible rfl
                   rotate_left
                   ·simp only [Act.put, s1_, s2_, s3_, i64_w, i32_w]
                    rfl
                   refine pure_ (i := 34) (N := some 78) (v := ?_) (a' := ?_) P35_ rfl rfl (any_of HT_.out (by kernel_rfl)) (fun _ _ _ h => h) (Or.inl ⟨by rfl, ?_⟩) ?_ ?_
                   rotate_left
                   ·intro w'
                    go_simp
                    with_reducible rfl
                   rotate_left
                   ·simp only [Act.put, s1_, s2_, s3_, i64_w, i32_w]
                    rfl
                   refine pure_ (i := 35) (N := some 79) (v := ?_) (a' := ?_) P36_ rfl rfl (any_of HT_.out (by kernel_rfl)) (fun _ _ _ h => h) (Or.inl ⟨by rfl, ?_⟩) ?_ ?_
                   rotate_left
                   ·intro w'
                    go_simp
                    with_reducible rfl
                   rotate_left
                   ·simp only [Act.put, s1_, s2_, s3_, i64_w, i32_w]
                    rfl
                   refine pure_ (i := 36) (N := some 80) (v := ?_) (a' := ?_) P37_ rfl rfl (any_of HT_.out (by kernel_rfl)) (fun _ _ _ h => h) (Or.inl ⟨by rfl, ?_⟩) ?_ ?_
                   rotate_left
                   ·intro w'
                    go_simp
                    with_reducible rfl
                   rotate_left
                   ·simp only [Act.put, s1_, s2_, s3_, i64_w, i32_w]
                    rfl
                   refine pure_ (i := 37) (N := some 81) (v := ?_) (a' := ?_) P38_ rfl rfl (any_of HT_.out (by kernel_rfl)) (fun _ _ _ h => h) (Or.inl ⟨by rfl, ?_⟩) ?_ ?_
                   rotate_left
                   ·intro w'
                    go_simp
                    with_reducible rfl
                   rotate_left
                   ·simp only [Act.put, s1_, s2_, s3_, i64_w, i32_w]
                    rfl
                   refine pure_ (i := 38) (N := some 82) (v := ?_) (a' := ?_) P39_ rfl rfl (any_of HT_.out (by kernel_rfl)) (fun _ _ _ h => h) (Or.inl ⟨by rfl, ?_⟩) ?_ ?_
                   rotate_left
                   ·intro w'
                    go_simp
                    with_reducible rfl
                   rotate_left
                   ·simp only [Act.put, s1_, s2_, s3_, i64_w, i32_w]
                    rfl
                   refine pure_ (i := 39) (N := some 83) (v := ?_) (a' := ?_) P40_ rfl rfl (any_of HT_.out (by kernel_rfl)) (fun _ _ _ h => h) (Or.inl ⟨by rfl, ?_⟩) ?_ ?_
                   rotate_left
                   ·intro w'
                    go_simp
                    with_reducible rfl
                   rotate_left
                   ·simp only [Act.put, s1_, s2_, s3_, i64_w, i32_w]
                    rfl
                   refine take_ (i := 40) (N := some 84) (v := ?_) (a' := ?_) P41_ rfl rfl (take_ofW HT_.out HW_.out (by kernel_rfl)) (fun _ _ _ h => h) (Or.inl ⟨by rfl, ?_⟩) hHeld ?_ ?_
                   rotate_left
                   ·intro w' s0
                    go_simp
                    with_reducible rfl
                   rotate_left
                   ·simp only [Act.put, s1_, s2_, s3_, i64_w, i32_w]
                    rfl
                   refine pure_ (i := 41) (N := some 85) (v := ?_) (a' := ?_) P42_ rfl rfl (any_of HT_.out (by kernel_rfl)) (fun _ _ _ h => h) (Or.inl ⟨by rfl, ?_⟩) ?_ ?_
                   rotate_left
                   ·intro w'
                    go_simp
                    with_reducible rfl
                   rotate_left
                   ·simp only [Act.put, s1_, s2_, s3_, i64_w, i32_w]
                    rfl
                   refine pure_ (i := 42) (N := some 86) (v := ?_) (a' := ?_) P43_ rfl rfl (any_of HT_.out (by kernel_rfl)) (fun _ _ _ h => h) (Or.inl ⟨by rfl, ?_⟩) ?_ ?_
                   rotate_left
                   ·intro w'
                    go_simp
                    with_reducible rfl
                   rotate_left
                   ·simp only [Act.put, s1_, s2_, s3_, i64_w, i32_w]
                    rfl
                   refine pure_ (i := 43) (N := some 87) (v := ?_) (a' := ?_) P44_ rfl rfl (any_of HT_.out (by kernel_rfl)) (fun _ _ _ h => h) (Or.inl ⟨by rfl, ?_⟩) ?_ ?_
                   rotate_left
                   ·intro w'
                    go_simp
                    with_reducible rfl
                   rotate_left
                   ·simp only [Act.put, s1_, s2_, s3_, i64_w, i32_w]
                    rfl
                   refine done_ (done_of HT_.out (by kernel_rfl)) ?_
                   try go_wp2
                   go_meet
                   case rel => exact ⟨_, (((rd l2 (ji21)) != 0)), (by first | rfl | (simp; done) | (simp only [← hji21] <;> (first | rfl | simp)) | (simp [*]; done)), H', ⟨by have := HK1.out; have := HK2.out; have := HJ10.out; have := HJ12.out; first | omega | exact Nat.le_refl _⟩, ⟨by (with_reducible repeat (first | apply Kd.R_alloc | apply Kd.R_drewN | apply Kd.R_drew)); exact HO_8.out⟩, ⟨by repeat (first | (with_reducible first | exact HB.out | apply below_alloc | apply pw_below_drewN | apply below_drew1) | exact HB.out)⟩⟩
                  ·rw [if_neg c23] at H
                   exact absurd H (by simp)
                 ·rw [if_neg c22] at H
                  exact absurd H (by simp)
               ·rw [if_neg c17] at H
                have c17b0 : (x11_12 == x12_12) = false := beq_eq_false_iff_ne.mpr c17
                have c17b1 : (x11_12 != x12_12) = true := bne_iff_ne.mpr c17
                have H' := Am H
                clear H
                try go_wp2
                have n0_ := Am (Kd.R_drew HO_8.out)
                have n1_ := Am (below_drew1 HB.out)
                clear HO_8
                clear HB
                have HO_8 := n0_
                have HB := n1_
                clear n0_ n1_
                refine start_ (n := 44) (S := fun w' => True) (ds := []) P0_ (by kernel_rfl) rfl rfl trivial (fun hHeld => ?_); refine with_tabW entrepotref07_Pack.tab17 entrepotref07_Pack.bits17 (fun HT_ HW_ => ?_)
                generalize wc.drew = w25 at HO_8 HB hHeld ⊢
                refine pure_ (i := 0) (N := some 44) (v := ?_) (a' := ?_) P1_ rfl rfl (any_of HT_.out (by kernel_rfl)) (fun _ _ _ h => h) (Or.inl ⟨by rfl, ?_⟩) ?_ ?_
                rotate_left
                ·intro w'
                 go_simp
                 with_reducible rfl
                rotate_left
                ·simp only [Act.put, s1_, s2_, s3_, i64_w, i32_w]
                 rfl
                refine pure_ (i := 1) (N := some 45) (v := ?_) (a' := ?_) P2_ rfl rfl (any_of HT_.out (by kernel_rfl)) (fun _ _ _ h => h) (Or.inl ⟨by rfl, ?_⟩) ?_ ?_
                rotate_left
                ·intro w'
                 go_simp
                 with_reducible rfl
                rotate_left
                ·simp only [Act.put, s1_, s2_, s3_, i64_w, i32_w]
                 rfl
                refine pure_ (i := 2) (N := some 46) (v := ?_) (a' := ?_) P3_ rfl rfl (any_of HT_.out (by kernel_rfl)) (fun _ _ _ h => h) (Or.inl ⟨by rfl, ?_⟩) ?_ ?_
                rotate_left
                ·intro w'
                 go_simp
                 with_reducible rfl
                rotate_left
                ·simp only [Act.put, s1_, s2_, s3_, i64_w, i32_w]
                 rfl
                refine pure_ (i := 3) (N := some 47) (v := undef) (a' := ?_) P4_ rfl rfl (any_of HT_.out (by kernel_rfl)) (fun _ _ _ h => h) (Or.inr ⟨by rfl, rfl⟩) ?_ ?_
                rotate_left
                ·simp only [Act.put, s1_, s2_, s3_, i64_w, i32_w]
                 rfl
                refine pure_ (i := 4) (N := some 48) (v := undef) (a' := ?_) P5_ rfl rfl (any_of HT_.out (by kernel_rfl)) (fun _ _ _ h => h) (Or.inr ⟨by rfl, rfl⟩) ?_ ?_
                rotate_left
                ·simp only [Act.put, s1_, s2_, s3_, i64_w, i32_w]
                 rfl
                refine pure_ (i := 5) (N := some 49) (v := undef) (a' := ?_) P6_ rfl rfl (any_of HT_.out (by kernel_rfl)) (fun _ _ _ h => h) (Or.inr ⟨by rfl, rfl⟩) ?_ ?_
                rotate_left
                ·simp only [Act.put, s1_, s2_, s3_, i64_w, i32_w]
                 rfl
                refine pure_ (i := 6) (N := some 50) (v := undef) (a' := ?_) P7_ rfl rfl (any_of HT_.out (by kernel_rfl)) (fun _ _ _ h => h) (Or.inr ⟨by rfl, rfl⟩) ?_ ?_
                rotate_left
                ·simp only [Act.put, s1_, s2_, s3_, i64_w, i32_w]
                 rfl
                refine pure_ (i := 7) (N := some 51) (v := undef) (a' := ?_) P8_ rfl rfl (any_of HT_.out (by kernel_rfl)) (fun _ _ _ h => h) (Or.inr ⟨by rfl, rfl⟩) ?_ ?_
                rotate_left
                ·simp only [Act.put, s1_, s2_, s3_, i64_w, i32_w]
                 rfl
                refine pure_ (i := 8) (N := some 52) (v := undef) (a' := ?_) P9_ rfl rfl (any_of HT_.out (by kernel_rfl)) (fun _ _ _ h => h) (Or.inr ⟨by rfl, rfl⟩) ?_ ?_
                rotate_left
                ·simp only [Act.put, s1_, s2_, s3_, i64_w, i32_w]
                 rfl
                refine pure_ (i := 9) (N := some 53) (v := undef) (a' := ?_) P10_ rfl rfl (any_of HT_.out (by kernel_rfl)) (fun _ _ _ h => h) (Or.inr ⟨by rfl, rfl⟩) ?_ ?_
                rotate_left
                ·simp only [Act.put, s1_, s2_, s3_, i64_w, i32_w]
                 rfl
                refine pure_ (i := 10) (N := some 54) (v := undef) (a' := ?_) P11_ rfl rfl (any_of HT_.out (by kernel_rfl)) (fun _ _ _ h => h) (Or.inr ⟨by rfl, rfl⟩) ?_ ?_
                rotate_left
                ·simp only [Act.put, s1_, s2_, s3_, i64_w, i32_w]
                 rfl
                refine pure_ (i := 11) (N := some 55) (v := undef) (a' := ?_) P12_ rfl rfl (any_of HT_.out (by kernel_rfl)) (fun _ _ _ h => h) (Or.inr ⟨by rfl, rfl⟩) ?_ ?_
                rotate_left
                ·simp only [Act.put, s1_, s2_, s3_, i64_w, i32_w]
                 rfl
                refine pure_ (i := 12) (N := some 56) (v := undef) (a' := ?_) P13_ rfl rfl (any_of HT_.out (by kernel_rfl)) (fun _ _ _ h => h) (Or.inr ⟨by rfl, rfl⟩) ?_ ?_
                rotate_left
                ·simp only [Act.put, s1_, s2_, s3_, i64_w, i32_w]
                 rfl
                refine pure_ (i := 13) (N := some 57) (v := undef) (a' := ?_) P14_ rfl rfl (any_of HT_.out (by kernel_rfl)) (fun _ _ _ h => h) (Or.inr ⟨by rfl, rfl⟩) ?_ ?_
                rotate_left
                ·simp only [Act.put, s1_, s2_, s3_, i64_w, i32_w]
                 rfl
                refine pure_ (i := 14) (N := some 58) (v := undef) (a' := ?_) P15_ rfl rfl (any_of HT_.out (by kernel_rfl)) (fun _ _ _ h => h) (Or.inr ⟨by rfl, rfl⟩) ?_ ?_
                rotate_left
                ·simp only [Act.put, s1_, s2_, s3_, i64_w, i32_w]
                 rfl
                refine pure_ (i := 15) (N := some 59) (v := undef) (a' := ?_) P16_ rfl rfl (any_of HT_.out (by kernel_rfl)) (fun _ _ _ h => h) (Or.inr ⟨by rfl, rfl⟩) ?_ ?_
                rotate_left
                ·simp only [Act.put, s1_, s2_, s3_, i64_w, i32_w]
                 rfl
                refine pure_ (i := 16) (N := some 60) (v := undef) (a' := ?_) P17_ rfl rfl (any_of HT_.out (by kernel_rfl)) (fun _ _ _ h => h) (Or.inr ⟨by rfl, rfl⟩) ?_ ?_
                rotate_left
                ·simp only [Act.put, s1_, s2_, s3_, i64_w, i32_w]
                 rfl
                refine pure_ (i := 17) (N := some 61) (v := undef) (a' := ?_) P18_ rfl rfl (any_of HT_.out (by kernel_rfl)) (fun _ _ _ h => h) (Or.inr ⟨by rfl, rfl⟩) ?_ ?_
                rotate_left
                ·simp only [Act.put, s1_, s2_, s3_, i64_w, i32_w]
                 rfl
                refine pure_ (i := 18) (N := some 62) (v := undef) (a' := ?_) P19_ rfl rfl (any_of HT_.out (by kernel_rfl)) (fun _ _ _ h => h) (Or.inr ⟨by rfl, rfl⟩) ?_ ?_
                rotate_left
                ·simp only [Act.put, s1_, s2_, s3_, i64_w, i32_w]
                 rfl
                refine pure_ (i := 19) (N := some 63) (v := undef) (a' := ?_) P20_ rfl rfl (any_of HT_.out (by kernel_rfl)) (fun _ _ _ h => h) (Or.inr ⟨by rfl, rfl⟩) ?_ ?_
                rotate_left
                ·simp only [Act.put, s1_, s2_, s3_, i64_w, i32_w]
                 rfl
                refine pure_ (i := 20) (N := some 64) (v := ?_) (a' := ?_) P21_ rfl rfl (any_of HT_.out (by kernel_rfl)) (fun _ _ _ h => h) (Or.inl ⟨by rfl, ?_⟩) ?_ ?_
                rotate_left
                ·intro w'
                 go_simp
                 with_reducible rfl
                rotate_left
                ·simp only [Act.put, s1_, s2_, s3_, i64_w, i32_w]
                 rfl
                refine pure_ (i := 21) (N := some 65) (v := ?_) (a' := ?_) P22_ rfl rfl (any_of HT_.out (by kernel_rfl)) (fun _ _ _ h => h) (Or.inl ⟨by rfl, ?_⟩) ?_ ?_
                rotate_left
                ·intro w'
                 go_simp
                 with_reducible rfl
                rotate_left
                ·simp only [Act.put, s1_, s2_, s3_, i64_w, i32_w]
                 rfl
                refine pure_ (i := 22) (N := some 66) (v := ?_) (a' := ?_) P23_ rfl rfl (any_of HT_.out (by kernel_rfl)) (fun _ _ _ h => h) (Or.inl ⟨by rfl, ?_⟩) ?_ ?_
                rotate_left
                ·intro w'
                 go_simp
                 with_reducible rfl
                rotate_left
                ·simp only [Act.put, s1_, s2_, s3_, i64_w, i32_w]
                 rfl
                refine pure_ (i := 23) (N := some 67) (v := ?_) (a' := ?_) P24_ rfl rfl (any_of HT_.out (by kernel_rfl)) (fun _ _ _ h => h) (Or.inl ⟨by rfl, ?_⟩) ?_ ?_
                rotate_left
                ·intro w'
                 go_simp
                 with_reducible rfl
                rotate_left
                ·simp only [Act.put, s1_, s2_, s3_, i64_w, i32_w]
                 rfl
                refine pure_ (i := 24) (N := some 68) (v := ?_) (a' := ?_) P25_ rfl rfl (any_of HT_.out (by kernel_rfl)) (fun _ _ _ h => h) (Or.inl ⟨by rfl, ?_⟩) ?_ ?_
                rotate_left
                ·intro w'
                 go_simp
                 with_reducible rfl
                rotate_left
                ·simp only [Act.put, s1_, s2_, s3_, i64_w, i32_w]
                 rfl
                refine pure_ (i := 25) (N := some 69) (v := ?_) (a' := ?_) P26_ rfl rfl (any_of HT_.out (by kernel_rfl)) (fun _ _ _ h => h) (Or.inl ⟨by rfl, ?_⟩) ?_ ?_
                rotate_left
                ·intro w'
                 go_simp
                 with_reducible rfl
                rotate_left
                ·simp only [Act.put, s1_, s2_, s3_, i64_w, i32_w]
                 rfl
                refine pure_ (i := 26) (N := some 70) (v := undef) (a' := ?_) P27_ rfl rfl (any_of HT_.out (by kernel_rfl)) (fun _ _ _ h => h) (Or.inr ⟨by rfl, rfl⟩) ?_ ?_
                rotate_left
                ·simp only [Act.put, s1_, s2_, s3_, i64_w, i32_w]
                 rfl
                refine pure_ (i := 27) (N := some 71) (v := undef) (a' := ?_) P28_ rfl rfl (any_of HT_.out (by kernel_rfl)) (fun _ _ _ h => h) (Or.inr ⟨by rfl, rfl⟩) ?_ ?_
                rotate_left
                ·simp only [Act.put, s1_, s2_, s3_, i64_w, i32_w]
                 rfl
                refine pure_ (i := 28) (N := some 72) (v := undef) (a' := ?_) P29_ rfl rfl (any_of HT_.out (by kernel_rfl)) (fun _ _ _ h => h) (Or.inr ⟨by rfl, rfl⟩) ?_ ?_
                rotate_left
                ·simp only [Act.put, s1_, s2_, s3_, i64_w, i32_w]
                 rfl
                refine pure_ (i := 29) (N := some 73) (v := undef) (a' := ?_) P30_ rfl rfl (any_of HT_.out (by kernel_rfl)) (fun _ _ _ h => h) (Or.inr ⟨by rfl, rfl⟩) ?_ ?_
                rotate_left
                ·simp only [Act.put, s1_, s2_, s3_, i64_w, i32_w]
                 rfl
                refine pure_ (i := 30) (N := some 74) (v := undef) (a' := ?_) P31_ rfl rfl (any_of HT_.out (by kernel_rfl)) (fun _ _ _ h => h) (Or.inr ⟨by rfl, rfl⟩) ?_ ?_
                rotate_left
                ·simp only [Act.put, s1_, s2_, s3_, i64_w, i32_w]
                 rfl
                refine pure_ (i := 31) (N := some 75) (v := ?_) (a' := ?_) P32_ rfl rfl (any_of HT_.out (by kernel_rfl)) (fun _ _ _ h => h) (Or.inl ⟨by rfl, ?_⟩) ?_ ?_
                rotate_left
                ·intro w'
                 go_simp
                 with_reducible rfl
                rotate_left
                ·simp only [Act.put, s1_, s2_, s3_, i64_w, i32_w]
                 rfl
                refine pure_ (i := 32) (N := some 76) (v := ?_) (a' := ?_) P33_ rfl rfl (any_of HT_.out (by kernel_rfl)) (fun _ _ _ h => h) (Or.inl ⟨by rfl, ?_⟩) ?_ ?_
                rotate_left
                ·intro w'
                 go_simp
                 with_reducible rfl
                rotate_left
                ·simp only [Act.put, s1_, s2_, s3_, i64_w, i32_w]
                 rfl
                refine pure_ (i := 33) (N := some 77) (v := undef) (a' := ?_) P34_ rfl rfl (any_of HT_.out (by kernel_rfl)) (fun _ _ _ h => h) (Or.inr ⟨by rfl, rfl⟩) ?_ ?_
                rotate_left
                ·simp only [Act.put, s1_, s2_, s3_, i64_w, i32_w]
                 rfl
                refine pure_ (i := 34) (N := some 78) (v := undef) (a' := ?_) P35_ rfl rfl (any_of HT_.out (by kernel_rfl)) (fun _ _ _ h => h) (Or.inr ⟨by rfl, rfl⟩) ?_ ?_
                rotate_left
                ·simp only [Act.put, s1_, s2_, s3_, i64_w, i32_w]
                 rfl
                refine pure_ (i := 35) (N := some 79) (v := undef) (a' := ?_) P36_ rfl rfl (any_of HT_.out (by kernel_rfl)) (fun _ _ _ h => h) (Or.inr ⟨by rfl, rfl⟩) ?_ ?_
                rotate_left
                ·simp only [Act.put, s1_, s2_, s3_, i64_w, i32_w]
                 rfl
                refine pure_ (i := 36) (N := some 80) (v := undef) (a' := ?_) P37_ rfl rfl (any_of HT_.out (by kernel_rfl)) (fun _ _ _ h => h) (Or.inr ⟨by rfl, rfl⟩) ?_ ?_
                rotate_left
                ·simp only [Act.put, s1_, s2_, s3_, i64_w, i32_w]
                 rfl
                refine pure_ (i := 37) (N := some 81) (v := undef) (a' := ?_) P38_ rfl rfl (any_of HT_.out (by kernel_rfl)) (fun _ _ _ h => h) (Or.inr ⟨by rfl, rfl⟩) ?_ ?_
                rotate_left
                ·simp only [Act.put, s1_, s2_, s3_, i64_w, i32_w]
                 rfl
                refine pure_ (i := 38) (N := some 82) (v := undef) (a' := ?_) P39_ rfl rfl (any_of HT_.out (by kernel_rfl)) (fun _ _ _ h => h) (Or.inr ⟨by rfl, rfl⟩) ?_ ?_
                rotate_left
                ·simp only [Act.put, s1_, s2_, s3_, i64_w, i32_w]
                 rfl
                refine pure_ (i := 39) (N := some 83) (v := undef) (a' := ?_) P40_ rfl rfl (any_of HT_.out (by kernel_rfl)) (fun _ _ _ h => h) (Or.inr ⟨by rfl, rfl⟩) ?_ ?_
                rotate_left
                ·simp only [Act.put, s1_, s2_, s3_, i64_w, i32_w]
                 rfl
                refine pure_ (i := 40) (N := some 84) (v := undef) (a' := ?_) P41_ rfl rfl (any_of HT_.out (by kernel_rfl)) (fun _ _ _ h => h) (Or.inr ⟨by rfl, rfl⟩) ?_ ?_
                rotate_left
                ·simp only [Act.put, s1_, s2_, s3_, i64_w, i32_w]
                 rfl
                refine pure_ (i := 41) (N := some 85) (v := undef) (a' := ?_) P42_ rfl rfl (any_of HT_.out (by kernel_rfl)) (fun _ _ _ h => h) (Or.inr ⟨by rfl, rfl⟩) ?_ ?_
                rotate_left
                ·simp only [Act.put, s1_, s2_, s3_, i64_w, i32_w]
                 rfl
                refine pure_ (i := 42) (N := some 86) (v := ?_) (a' := ?_) P43_ rfl rfl (any_of HT_.out (by kernel_rfl)) (fun _ _ _ h => h) (Or.inl ⟨by rfl, ?_⟩) ?_ ?_
                rotate_left
                ·intro w'
                 go_simp
                 with_reducible rfl
                rotate_left
                ·simp only [Act.put, s1_, s2_, s3_, i64_w, i32_w]
                 rfl
                refine pure_ (i := 43) (N := some 87) (v := ?_) (a' := ?_) P44_ rfl rfl (any_of HT_.out (by kernel_rfl)) (fun _ _ _ h => h) (Or.inl ⟨by rfl, ?_⟩) ?_ ?_
                rotate_left
                ·intro w'
                 go_simp
                 with_reducible rfl
                rotate_left
                ·simp only [Act.put, s1_, s2_, s3_, i64_w, i32_w]
                 rfl
                refine done_ (done_of HT_.out (by kernel_rfl)) ?_
                try go_wp2
                go_meet
                case rel => exact ⟨_, (false), (by first | rfl | (simp; done) | (simp [*]; done)), H', ⟨by have := HK1.out; have := HK2.out; have := HJ10.out; have := HJ12.out; first | omega | exact Nat.le_refl _⟩, ⟨by (with_reducible repeat (first | apply Kd.R_alloc | apply Kd.R_drewN | apply Kd.R_drew)); exact HO_8.out⟩, ⟨by repeat (first | (with_reducible first | exact HB.out | apply below_alloc | apply pw_below_drewN | apply below_drew1) | exact HB.out)⟩⟩
              ·rw [if_neg c16] at H
               have c16b0 : (a0 == 1) = false := beq_eq_false_iff_ne.mpr c16
               have c16b1 : (a0 != 1) = true := bne_iff_ne.mpr c16
               (first | rw [c16b0] | (simp only [i64_w, i32_w]; rw [c16b0]) | skip)
               obtain ⟨ji26, hji26⟩ : ∃ j_ : Int, (wrap64 ((wrap64 (x11_12 * a1)) + x12_12)) = j_ := ⟨_, rfl⟩
               replace H : (if 0 ≤ (ji26) then (if (ji26) < (l2.length : Int) then (if 0 ≤ (wrap64 ((wrap64 (x12_12 * a1)) + x11_12)) then (if (wrap64 ((wrap64 (x12_12 * a1)) + x11_12)) < (l2.length : Int) then (if (rd l2 (ji26)) = (rd l2 (wrap64 ((wrap64 (x12_12 * a1)) + x11_12))) then (if x11_12 = x12_12 then ((entrepotref07_tells.f kj12 a0 x11_12 x11_12).bind fun t197 => (if t197 = true then (entrepotref07_Pack.j4 kj12 a0 a1 l2 x8_2 x9_1 x10_2 x11_12 x12_12 false) else (if 0 ≤ (wrap64 ((wrap64 (x11_12 * a1)) + x11_12)) then (if (wrap64 ((wrap64 (x11_12 * a1)) + x11_12)) < (l2.length : Int) then (entrepotref07_Pack.j4 kj12 a0 a1 l2 x8_2 x9_1 x10_2 x11_12 x12_12 ((rd l2 (wrap64 ((wrap64 (x11_12 * a1)) + x11_12))) != 0)) else (none)) else (none)))) else (entrepotref07_Pack.j4 kj12 a0 a1 l2 x8_2 x9_1 x10_2 x11_12 x12_12 false)) else (entrepotref07_Pack.j4 kj12 a0 a1 l2 x8_2 x9_1 x10_2 x11_12 x12_12 true)) else (none)) else (none)) else (none)) else (none)) = some (r1, r2) := by first | (rw [hji26] at H; exact H) | (simp only [hji26] at H ⊢; exact H)
               have hji26w : (IntKind.i64.wrap ((wrap64 (x11_12 * a1)) + x12_12)) = ji26 := (i64_w _).trans hji26
               by_cases c27 : 0 ≤ (ji26)
               ·rw [if_pos c27] at H
                have c27b0 : decide (0 ≤ (ji26)) = true := decide_eq_true c27
                clear c27
                by_cases c28 : (ji26) < (l2.length : Int)
                ·rw [if_pos c28] at H
                 have c28b0 : decide ((ji26) < (l2.length : Int)) = true := decide_eq_true c28
                 clear c28
                 obtain ⟨ji29, hji29⟩ : ∃ j_ : Int, (wrap64 ((wrap64 (x12_12 * a1)) + x11_12)) = j_ := ⟨_, rfl⟩
                 replace H : (if 0 ≤ (ji29) then (if (ji29) < (l2.length : Int) then (if (rd l2 (ji26)) = (rd l2 (ji29)) then (if x11_12 = x12_12 then ((entrepotref07_tells.f kj12 a0 x11_12 x11_12).bind fun t197 => (if t197 = true then (entrepotref07_Pack.j4 kj12 a0 a1 l2 x8_2 x9_1 x10_2 x11_12 x12_12 false) else (if 0 ≤ (wrap64 ((wrap64 (x11_12 * a1)) + x11_12)) then (if (wrap64 ((wrap64 (x11_12 * a1)) + x11_12)) < (l2.length : Int) then (entrepotref07_Pack.j4 kj12 a0 a1 l2 x8_2 x9_1 x10_2 x11_12 x12_12 ((rd l2 (wrap64 ((wrap64 (x11_12 * a1)) + x11_12))) != 0)) else (none)) else (none)))) else (entrepotref07_Pack.j4 kj12 a0 a1 l2 x8_2 x9_1 x10_2 x11_12 x12_12 false)) else (entrepotref07_Pack.j4 kj12 a0 a1 l2 x8_2 x9_1 x10_2 x11_12 x12_12 true)) else (none)) else (none)) = some (r1, r2) := by first | (rw [hji29] at H; exact H) | (simp only [hji29] at H ⊢; exact H)
                 have hji29w : (IntKind.i64.wrap ((wrap64 (x12_12 * a1)) + x11_12)) = ji29 := (i64_w _).trans hji29
                 by_cases c30 : 0 ≤ (ji29)
                 ·rw [if_pos c30] at H
                  have c30b0 : decide (0 ≤ (ji29)) = true := decide_eq_true c30
                  clear c30
                  by_cases c31 : (ji29) < (l2.length : Int)
                  ·rw [if_pos c31] at H
                   have c31b0 : decide ((ji29) < (l2.length : Int)) = true := decide_eq_true c31
                   clear c31
                   by_cases c32 : (rd l2 (ji26)) = (rd l2 (ji29))
                   ·rw [if_pos c32] at H
                    have c32b0 : ((rd l2 (ji26)) == (rd l2 (ji29))) = true := beq_iff_eq.mpr c32
                    have c32b1 : ((rd l2 (ji26)) != (rd l2 (ji29))) = false := bne_eq_false_iff_eq.mpr c32
                    clear c32
                    by_cases c33 : x11_12 = x12_12
                    ·rw [if_pos c33] at H
                     have c33b0 : (x11_12 == x12_12) = true := beq_iff_eq.mpr c33
                     have c33b1 : (x11_12 != x12_12) = false := bne_eq_false_iff_eq.mpr c33
                     clear c33
                     replace H := Option.bind_eq_some_iff.mp H
                     obtain ⟨t197, A340, H⟩ := H
                     replace H : (if t197 = true then (entrepotref07_Pack.j4 kj12 a0 a1 l2 x8_2 x9_1 x10_2 x11_12 x12_12 false) else (if 0 ≤ (wrap64 ((wrap64 (x11_12 * a1)) + x11_12)) then (if (wrap64 ((wrap64 (x11_12 * a1)) + x11_12)) < (l2.length : Int) then (entrepotref07_Pack.j4 kj12 a0 a1 l2 x8_2 x9_1 x10_2 x11_12 x12_12 ((rd l2 (wrap64 ((wrap64 (x11_12 * a1)) + x11_12))) != 0)) else (none)) else (none))) = some (r1, r2) := H
                     have A34 := Am A340
                     clear A340
                     by_cases c35 : t197 = true
                     ·subst c35
                      have H1 : (entrepotref07_Pack.j4 kj12 a0 a1 l2 x8_2 x9_1 x10_2 x11_12 x12_12 false) = some (r1, r2) := by rw [if_pos rfl] at H; exact H
                      clear H
                      have H := H1
                      clear H1
                      have H' := Am H
                      clear H
                      try go_wp2
                      have n0_ := Am (Kd.R_drew HO_8.out)
                      have n1_ := Am (below_drew1 HB.out)
                      clear HO_8
                      clear HB
                      have HO_8 := n0_
                      have HB := n1_
                      clear n0_ n1_
                      have p195 : 0 ≤ ((ji26) : Int) := of_decide_eq_true (by first | (with_reducible assumption) | assumption)
                      have q195 : (ji26) < (l2.length : Int) := of_decide_eq_true (by first | (with_reducible assumption) | assumption)
                      obtain ⟨ad195, e195, hx195_0⟩ := Kd.at_int HR2.out (ji26) p195 q195
                      have hw195_0 := hx195_0
                      cases e195
                      replace hx195_0 := (HB.out.cell (World.block_lt_of_cell? w _ hx195_0)).trans hx195_0
                      replace p195 := eq_true p195
                      replace q195 := eq_true q195
                      have p196 : 0 ≤ ((ji29) : Int) := of_decide_eq_true (by first | (with_reducible assumption) | assumption)
                      have q196 : (ji29) < (l2.length : Int) := of_decide_eq_true (by first | (with_reducible assumption) | assumption)
                      obtain ⟨ad196, e196, hx196_0⟩ := Kd.at_int HR2.out (ji29) p196 q196
                      have hw196_0 := hx196_0
                      obtain rfl : ad195 = ad196 := (by injection e196)
                      replace hx196_0 := (HB.out.cell (World.block_lt_of_cell? w _ hx196_0)).trans hx196_0
                      replace p196 := eq_true p196
                      replace q196 := eq_true q196
                      refine start_ (n := 44) (S := fun w' => w'.cell? (ad195.add ((ji26)).toNat) = some (.int .i64 (rd l2 (ji26))) ∧ w'.cell? (ad195.add ((ji29)).toNat) = some (.int .i64 (rd l2 (ji29)))) (ds := []) P0_ (by kernel_rfl) rfl rfl ⟨((HB.out.cell (World.block_lt_of_cell? w _ hw195_0)).trans hw195_0), ((HB.out.cell (World.block_lt_of_cell? w _ hw196_0)).trans hw196_0)⟩ (fun hHeld => ?_); refine with_tabW entrepotref07_Pack.tab17 entrepotref07_Pack.bits17 (fun HT_ HW_ => ?_)
                      generalize wc.drew = w36 at HO_8 HB hx195_0 hx196_0 hHeld ⊢
                      refine pure_ (i := 0) (N := some 44) (v := ?_) (a' := ?_) P1_ rfl rfl (any_of HT_.out (by kernel_rfl)) (fun _ _ _ h => h) (Or.inl ⟨by rfl, ?_⟩) ?_ ?_
                      rotate_left
                      ·intro w'
                       go_simp
                       with_reducible rfl
                      rotate_left
                      ·simp only [Act.put, s1_, s2_, s3_, i64_w, i32_w]
                       rfl
                      refine pure_ (i := 1) (N := some 45) (v := ?_) (a' := ?_) P2_ rfl rfl (any_of HT_.out (by kernel_rfl)) (fun _ _ _ h => h) (Or.inl ⟨by rfl, ?_⟩) ?_ ?_
                      rotate_left
                      ·intro w'
                       go_simp
                       with_reducible rfl
                      rotate_left
                      ·simp only [Act.put, s1_, s2_, s3_, i64_w, i32_w]
                       rfl
                      refine pure_ (i := 2) (N := some 46) (v := ?_) (a' := ?_) P3_ rfl rfl (any_of HT_.out (by kernel_rfl)) (fun _ _ _ h => h) (Or.inl ⟨by rfl, ?_⟩) ?_ ?_
                      rotate_left
                      ·intro w'
                       go_simp
                       with_reducible rfl
                      rotate_left
                      ·simp only [Act.put, s1_, s2_, s3_, i64_w, i32_w]
                       rfl
                      refine pure_ (i := 3) (N := some 47) (v := ?_) (a' := ?_) P4_ rfl rfl (any_of HT_.out (by kernel_rfl)) (fun _ _ _ h => h) (Or.inl ⟨by rfl, ?_⟩) ?_ ?_
                      rotate_left
                      ·intro w'
                       go_simp
                       with_reducible rfl
                      rotate_left
                      ·simp only [Act.put, s1_, s2_, s3_, i64_w, i32_w]
                       rfl
                      refine pure_ (i := 4) (N := some 48) (v := ?_) (a' := ?_) P5_ rfl rfl (any_of HT_.out (by kernel_rfl)) (fun _ _ _ h => h) (Or.inl ⟨by rfl, ?_⟩) ?_ ?_
                      rotate_left
                      ·intro w'
                       go_simp
                       with_reducible rfl
                      rotate_left
                      ·simp only [Act.put, s1_, s2_, s3_, i64_w, i32_w]
                       rfl
                      refine pure_ (i := 5) (N := some 49) (v := ?_) (a' := ?_) P6_ rfl rfl (any_of HT_.out (by kernel_rfl)) (fun _ _ _ h => h) (Or.inl ⟨by rfl, ?_⟩) ?_ ?_
                      rotate_left
                      ·intro w'
                       go_simp
                       with_reducible rfl
                      rotate_left
                      ·simp only [Act.put, s1_, s2_, s3_, i64_w, i32_w]
                       rfl
                      refine pure_ (i := 6) (N := some 50) (v := ?_) (a' := ?_) P7_ rfl rfl (any_of HT_.out (by kernel_rfl)) (fun _ _ _ h => h) (Or.inl ⟨by rfl, ?_⟩) ?_ ?_
                      rotate_left
                      ·intro w'
                       go_simp
                       with_reducible rfl
                      rotate_left
                      ·simp only [Act.put, s1_, s2_, s3_, i64_w, i32_w]
                       rfl
                      refine pure_ (i := 7) (N := some 51) (v := ?_) (a' := ?_) P8_ rfl rfl (any_of HT_.out (by kernel_rfl)) (fun _ _ _ h => h) (Or.inl ⟨by rfl, ?_⟩) ?_ ?_
                      rotate_left
                      ·intro w'
                       go_simp
                       with_reducible rfl
                      rotate_left
                      ·simp only [Act.put, s1_, s2_, s3_, i64_w, i32_w]
                       rfl
                      refine pure_ (i := 8) (N := some 52) (v := ?_) (a' := ?_) P9_ rfl rfl (any_of HT_.out (by kernel_rfl)) (fun _ _ _ h => h) (Or.inl ⟨by rfl, ?_⟩) ?_ ?_
                      rotate_left
                      ·intro w'
                       go_simp
                       with_reducible rfl
                      rotate_left
                      ·simp only [Act.put, s1_, s2_, s3_, i64_w, i32_w]
                       rfl
                      refine pure_ (i := 9) (N := some 53) (v := ?_) (a' := ?_) P10_ rfl rfl (any_of HT_.out (by kernel_rfl)) (fun _ _ _ h => h) (Or.inl ⟨by rfl, ?_⟩) ?_ ?_
                      rotate_left
                      ·intro w'
                       go_simp
                       with_reducible rfl
                      rotate_left
                      ·simp only [Act.put, s1_, s2_, s3_, i64_w, i32_w]
                       rfl
                      refine pure_ (i := 11) (N := some 55) (v := ?_) (a' := ?_) P45_ rfl rfl (any_of HT_.out (by kernel_rfl)) (fun _ _ _ h => h) (Or.inl ⟨by rfl, ?_⟩) ?_ ?_
                      rotate_left
                      ·intro w'
                       go_simp
                       with_reducible rfl
                      rotate_left
                      ·simp only [Act.put, s1_, s2_, s3_, i64_w, i32_w]
                       rfl
                      refine pure_ (i := 12) (N := some 56) (v := ?_) (a' := ?_) P46_ rfl rfl (any_of HT_.out (by kernel_rfl)) (fun _ _ _ h => h) (Or.inl ⟨by rfl, ?_⟩) ?_ ?_
                      rotate_left
                      ·intro w'
                       go_simp
                       with_reducible rfl
                      rotate_left
                      ·simp only [Act.put, s1_, s2_, s3_, i64_w, i32_w]
                       rfl
                      refine pure_ (i := 13) (N := some 57) (v := ?_) (a' := ?_) P47_ rfl rfl (any_of HT_.out (by kernel_rfl)) (fun _ _ _ h => h) (Or.inl ⟨by rfl, ?_⟩) ?_ ?_
                      rotate_left
                      ·intro w'
                       go_simp
                       with_reducible rfl
                      rotate_left
                      ·simp only [Act.put, s1_, s2_, s3_, i64_w, i32_w]
                       rfl
                      refine pure_ (i := 14) (N := some 58) (v := ?_) (a' := ?_) P48_ rfl rfl (any_of HT_.out (by kernel_rfl)) (fun _ _ _ h => h) (Or.inl ⟨by rfl, ?_⟩) ?_ ?_
                      rotate_left
                      ·intro w'
                       go_simp
                       with_reducible rfl
                      rotate_left
                      ·simp only [Act.put, s1_, s2_, s3_, i64_w, i32_w]
                       rfl
                      refine pure_ (i := 15) (N := some 59) (v := ?_) (a' := ?_) P49_ rfl rfl (any_of HT_.out (by kernel_rfl)) (fun _ _ _ h => h) (Or.inl ⟨by rfl, ?_⟩) ?_ ?_
                      rotate_left
                      ·intro w'
                       go_simp
                       with_reducible rfl
                      rotate_left
                      ·simp only [Act.put, s1_, s2_, s3_, i64_w, i32_w]
                       rfl
                      refine pure_ (i := 16) (N := some 60) (v := ?_) (a' := ?_) P50_ rfl rfl (any_of HT_.out (by kernel_rfl)) (fun _ _ _ h => h) (Or.inl ⟨by rfl, ?_⟩) ?_ ?_
                      rotate_left
                      ·intro w'
                       go_simp
                       with_reducible rfl
                      rotate_left
                      ·simp only [Act.put, s1_, s2_, s3_, i64_w, i32_w]
                       rfl
                      refine pure_ (i := 17) (N := some 61) (v := ?_) (a' := ?_) P51_ rfl rfl (any_of HT_.out (by kernel_rfl)) (fun _ _ _ h => h) (Or.inl ⟨by rfl, ?_⟩) ?_ ?_
                      rotate_left
                      ·intro w'
                       go_simp
                       with_reducible rfl
                      rotate_left
                      ·simp only [Act.put, s1_, s2_, s3_, i64_w, i32_w]
                       rfl
                      refine take_ (i := 10) (N := some 54) (v := ?_) (a' := ?_) P18_ rfl rfl (take_ofW HT_.out HW_.out (by kernel_rfl)) (fun _ _ _ h => h) (Or.inl ⟨by rfl, ?_⟩) hHeld ?_ ?_
                      rotate_left
                      ·rintro w' ⟨s0, s1⟩
                       go_simp
                       with_reducible rfl
                      rotate_left
                      ·simp only [Act.put, s1_, s2_, s3_, i64_w, i32_w]
                       rfl
                      refine take_ (i := 18) (N := some 62) (v := ?_) (a' := ?_) P19_ rfl rfl (take_ofW HT_.out HW_.out (by kernel_rfl)) (fun _ _ _ h => h) (Or.inl ⟨by rfl, ?_⟩) hHeld ?_ ?_
                      rotate_left
                      ·rintro w' ⟨s0, s1⟩
                       go_simp
                       with_reducible rfl
                      rotate_left
                      ·simp only [Act.put, s1_, s2_, s3_, i64_w, i32_w]
                       rfl
                      refine pure_ (i := 19) (N := some 63) (v := ?_) (a' := ?_) P20_ rfl rfl (any_of HT_.out (by kernel_rfl)) (fun _ _ _ h => h) (Or.inl ⟨by rfl, ?_⟩) ?_ ?_
                      rotate_left
                      ·intro w'
                       go_simp
                       with_reducible rfl
                      rotate_left
                      ·simp only [Act.put, s1_, s2_, s3_, i64_w, i32_w]
                       rfl
                      refine pure_ (i := 20) (N := some 64) (v := ?_) (a' := ?_) P21_ rfl rfl (any_of HT_.out (by kernel_rfl)) (fun _ _ _ h => h) (Or.inl ⟨by rfl, ?_⟩) ?_ ?_
                      rotate_left
                      ·intro w'
                       go_simp
                       with_reducible rfl
                      rotate_left
                      ·simp only [Act.put, s1_, s2_, s3_, i64_w, i32_w]
                       rfl
                      refine pure_ (i := 21) (N := some 65) (v := ?_) (a' := ?_) P22_ rfl rfl (any_of HT_.out (by kernel_rfl)) (fun _ _ _ h => h) (Or.inl ⟨by rfl, ?_⟩) ?_ ?_
                      rotate_left
                      ·intro w'
                       go_simp
                       with_reducible rfl
                      rotate_left
                      ·simp only [Act.put, s1_, s2_, s3_, i64_w, i32_w]
                       rfl
                      refine pure_ (i := 22) (N := some 66) (v := ?_) (a' := ?_) P23_ rfl rfl (any_of HT_.out (by kernel_rfl)) (fun _ _ _ h => h) (Or.inl ⟨by rfl, ?_⟩) ?_ ?_
                      rotate_left
                      ·intro w'
                       go_simp
                       with_reducible rfl
                      rotate_left
                      ·simp only [Act.put, s1_, s2_, s3_, i64_w, i32_w]
                       rfl
                      refine pure_ (i := 23) (N := some 67) (v := ?_) (a' := ?_) P24_ rfl rfl (any_of HT_.out (by kernel_rfl)) (fun _ _ _ h => h) (Or.inl ⟨by rfl, ?_⟩) ?_ ?_
                      rotate_left
                      ·intro w'
                       go_simp
                       with_reducible rfl
                      rotate_left
                      ·simp only [Act.put, s1_, s2_, s3_, i64_w, i32_w]
                       rfl
                      refine pure_ (i := 24) (N := some 68) (v := ?_) (a' := ?_) P25_ rfl rfl (any_of HT_.out (by kernel_rfl)) (fun _ _ _ h => h) (Or.inl ⟨by rfl, ?_⟩) ?_ ?_
                      rotate_left
                      ·intro w'
                       go_simp
                       with_reducible rfl
                      rotate_left
                      ·simp only [Act.put, s1_, s2_, s3_, i64_w, i32_w]
                       rfl
                      refine pure_ (i := 25) (N := some 69) (v := ?_) (a' := ?_) P26_ rfl rfl (any_of HT_.out (by kernel_rfl)) (fun _ _ _ h => h) (Or.inl ⟨by rfl, ?_⟩) ?_ ?_
                      rotate_left
                      ·intro w'
                       go_simp
                       with_reducible rfl
                      rotate_left
                      ·simp only [Act.put, s1_, s2_, s3_, i64_w, i32_w]
                       rfl
                      refine pure_ (i := 26) (N := some 70) (v := ?_) (a' := ?_) P27_ rfl rfl (any_of HT_.out (by kernel_rfl)) (fun _ _ _ h => h) (Or.inl ⟨by rfl, ?_⟩) ?_ ?_
                      rotate_left
                      ·intro w'
                       go_simp
                       with_reducible rfl
                      rotate_left
                      ·simp only [Act.put, s1_, s2_, s3_, i64_w, i32_w]
                       rfl
                      refine pure_ (i := 27) (N := some 71) (v := ?_) (a' := ?_) P28_ rfl rfl (any_of HT_.out (by kernel_rfl)) (fun _ _ _ h => h) (Or.inl ⟨by rfl, ?_⟩) ?_ ?_
                      rotate_left
                      ·intro w'
                       go_simp
                       with_reducible rfl
                      rotate_left
                      ·simp only [Act.put, s1_, s2_, s3_, i64_w, i32_w]
                       rfl
                      refine pure_ (i := 28) (N := some 72) (v := ?_) (a' := ?_) P29_ rfl rfl (any_of HT_.out (by kernel_rfl)) (fun _ _ _ h => h) (Or.inl ⟨by rfl, ?_⟩) ?_ ?_
                      rotate_left
                      ·intro w'
                       go_simp
                       with_reducible rfl
                      rotate_left
                      ·simp only [Act.put, s1_, s2_, s3_, i64_w, i32_w]
                       rfl
                      refine one_ (i := 29) (N := some 73) P30_ rfl rfl (one_of HT_.out (by kernel_rfl)) (by decide) (fun K hK => ?_)
                      refine goes_ Tryd.func25 (by kernel_rfl) rfl #[.int .i64 a0, .int .i64 x11_12, .int .i64 x11_12] (by rfl) rfl rfl (by (try simp only [List.map_toArray, List.map_cons, List.map_nil]); first | done | rfl | (simp only [List.length_drop, List.length_take]; rfl)) ?_
                      with_reducible refine (entrepotref07_tells.calls kj12 a0 x11_12 x11_12 true _ A34.out).mono ?_
                      rintro e w' ⟨rfl, ⟨nd, rfl⟩⟩
                      refine ⟨_, rfl, ?_⟩
                      refine hK.out _ _ ⟨((HB.out.cell (World.block_lt_of_cell? w _ hw195_0)).trans hw195_0), ((HB.out.cell (World.block_lt_of_cell? w _ hw196_0)).trans hw196_0)⟩ (fun hHeld => ?_)
                      clear hK K
                      refine norm_ (a' := ?_) ?_ ?_
                      rotate_left
                      ·show Act.put _ (some 73) _ = _
                       simp only [Act.put, s1_, s2_, s3_, i64_w, i32_w]
                       rfl
                      refine pure_ (i := 30) (N := some 74) (v := ?_) (a' := ?_) P31_ rfl rfl (any_of HT_.out (by kernel_rfl)) (fun _ _ _ h => h) (Or.inl ⟨by rfl, ?_⟩) ?_ ?_
                      rotate_left
                      ·intro w'
                       go_simp
                       with_reducible rfl
                      rotate_left
                      ·simp only [Act.put, s1_, s2_, s3_, i64_w, i32_w]
                       rfl
                      refine pure_ (i := 31) (N := some 75) (v := ?_) (a' := ?_) P32_ rfl rfl (any_of HT_.out (by kernel_rfl)) (fun _ _ _ h => h) (Or.inl ⟨by rfl, ?_⟩) ?_ ?_
                      rotate_left
                      ·intro w'
                       go_simp
                       with_reducible rfl
                      rotate_left
                      ·simp only [Act.put, s1_, s2_, s3_, i64_w, i32_w]
                       rfl
                      refine pure_ (i := 32) (N := some 76) (v := ?_) (a' := ?_) P33_ rfl rfl (any_of HT_.out (by kernel_rfl)) (fun _ _ _ h => h) (Or.inl ⟨by rfl, ?_⟩) ?_ ?_
                      rotate_left
                      ·intro w'
                       go_simp
                       with_reducible rfl
                      rotate_left
                      ·simp only [Act.put, s1_, s2_, s3_, i64_w, i32_w]
                       rfl
                      refine pure_ (i := 33) (N := some 77) (v := undef) (a' := ?_) P34_ rfl rfl (any_of HT_.out (by kernel_rfl)) (fun _ _ _ h => h) (Or.inr ⟨by rfl, rfl⟩) ?_ ?_
                      rotate_left
                      ·simp only [Act.put, s1_, s2_, s3_, i64_w, i32_w]
                       rfl
                      refine pure_ (i := 34) (N := some 78) (v := undef) (a' := ?_) P35_ rfl rfl (any_of HT_.out (by kernel_rfl)) (fun _ _ _ h => h) (Or.inr ⟨by rfl, rfl⟩) ?_ ?_
                      rotate_left
                      ·simp only [Act.put, s1_, s2_, s3_, i64_w, i32_w]
                       rfl
                      refine pure_ (i := 35) (N := some 79) (v := undef) (a' := ?_) P36_ rfl rfl (any_of HT_.out (by kernel_rfl)) (fun _ _ _ h => h) (Or.inr ⟨by rfl, rfl⟩) ?_ ?_
                      rotate_left
                      ·simp only [Act.put, s1_, s2_, s3_, i64_w, i32_w]
                       rfl
                      refine pure_ (i := 36) (N := some 80) (v := undef) (a' := ?_) P37_ rfl rfl (any_of HT_.out (by kernel_rfl)) (fun _ _ _ h => h) (Or.inr ⟨by rfl, rfl⟩) ?_ ?_
                      rotate_left
                      ·simp only [Act.put, s1_, s2_, s3_, i64_w, i32_w]
                       rfl
                      refine pure_ (i := 37) (N := some 81) (v := undef) (a' := ?_) P38_ rfl rfl (any_of HT_.out (by kernel_rfl)) (fun _ _ _ h => h) (Or.inr ⟨by rfl, rfl⟩) ?_ ?_
                      rotate_left
                      ·simp only [Act.put, s1_, s2_, s3_, i64_w, i32_w]
                       rfl
                      refine pure_ (i := 38) (N := some 82) (v := undef) (a' := ?_) P39_ rfl rfl (any_of HT_.out (by kernel_rfl)) (fun _ _ _ h => h) (Or.inr ⟨by rfl, rfl⟩) ?_ ?_
                      rotate_left
                      ·simp only [Act.put, s1_, s2_, s3_, i64_w, i32_w]
                       rfl
                      refine pure_ (i := 39) (N := some 83) (v := undef) (a' := ?_) P40_ rfl rfl (any_of HT_.out (by kernel_rfl)) (fun _ _ _ h => h) (Or.inr ⟨by rfl, rfl⟩) ?_ ?_
                      rotate_left
                      ·simp only [Act.put, s1_, s2_, s3_, i64_w, i32_w]
                       rfl
                      refine pure_ (i := 40) (N := some 84) (v := undef) (a' := ?_) P41_ rfl rfl (any_of HT_.out (by kernel_rfl)) (fun _ _ _ h => h) (Or.inr ⟨by rfl, rfl⟩) ?_ ?_
                      rotate_left
                      ·simp only [Act.put, s1_, s2_, s3_, i64_w, i32_w]
                       rfl
                      refine pure_ (i := 41) (N := some 85) (v := undef) (a' := ?_) P42_ rfl rfl (any_of HT_.out (by kernel_rfl)) (fun _ _ _ h => h) (Or.inr ⟨by rfl, rfl⟩) ?_ ?_
                      rotate_left
                      ·simp only [Act.put, s1_, s2_, s3_, i64_w, i32_w]
                       rfl
                      refine pure_ (i := 42) (N := some 86) (v := ?_) (a' := ?_) P43_ rfl rfl (any_of HT_.out (by kernel_rfl)) (fun _ _ _ h => h) (Or.inl ⟨by rfl, ?_⟩) ?_ ?_
                      rotate_left
                      ·intro w'
                       go_simp
                       with_reducible rfl
                      rotate_left
                      ·simp only [Act.put, s1_, s2_, s3_, i64_w, i32_w]
                       rfl
                      refine pure_ (i := 43) (N := some 87) (v := ?_) (a' := ?_) P44_ rfl rfl (any_of HT_.out (by kernel_rfl)) (fun _ _ _ h => h) (Or.inl ⟨by rfl, ?_⟩) ?_ ?_
                      rotate_left
                      ·intro w'
                       go_simp
                       with_reducible rfl
                      rotate_left
                      ·simp only [Act.put, s1_, s2_, s3_, i64_w, i32_w]
                       rfl
                      refine done_ (done_of HT_.out (by kernel_rfl)) ?_
                      try go_wp2
                      go_meet
                      case rel => exact ⟨_, (false), (by first | rfl | (simp; done) | (simp [*]; done)), H', ⟨by have := HK1.out; have := HK2.out; have := HJ10.out; have := HJ12.out; first | omega | exact Nat.le_refl _⟩, ⟨by (with_reducible repeat (first | apply Kd.R_alloc | apply Kd.R_drewN | apply Kd.R_drew)); exact HO_8.out⟩, ⟨by repeat (first | (with_reducible first | exact HB.out | apply below_alloc | apply pw_below_drewN | apply below_drew1) | exact HB.out)⟩⟩
                     ·replace c35 := Bool.eq_false_iff.mpr c35
                      subst c35
                      have H1 : (if 0 ≤ (wrap64 ((wrap64 (x11_12 * a1)) + x11_12)) then (if (wrap64 ((wrap64 (x11_12 * a1)) + x11_12)) < (l2.length : Int) then (entrepotref07_Pack.j4 kj12 a0 a1 l2 x8_2 x9_1 x10_2 x11_12 x12_12 ((rd l2 (wrap64 ((wrap64 (x11_12 * a1)) + x11_12))) != 0)) else (none)) else (none)) = some (r1, r2) := by rw [if_neg (show ¬ (false = true) by decide)] at H; exact H
                      clear H
                      have H := H1
                      clear H1
                      obtain ⟨ji37, hji37⟩ : ∃ j_ : Int, (wrap64 ((wrap64 (x11_12 * a1)) + x11_12)) = j_ := ⟨_, rfl⟩
                      replace H : (if 0 ≤ (ji37) then (if (ji37) < (l2.length : Int) then (entrepotref07_Pack.j4 kj12 a0 a1 l2 x8_2 x9_1 x10_2 x11_12 x12_12 ((rd l2 (ji37)) != 0)) else (none)) else (none)) = some (r1, r2) := by first | (rw [hji37] at H; exact H) | (simp only [hji37] at H ⊢; exact H)
                      (try rw [hji37] at A34)
                      have hji37w : (IntKind.i64.wrap ((wrap64 (x11_12 * a1)) + x11_12)) = ji37 := (i64_w _).trans hji37
                      by_cases c38 : 0 ≤ (ji37)
                      ·rw [if_pos c38] at H
                       have c38b0 : decide (0 ≤ (ji37)) = true := decide_eq_true c38
                       clear c38
                       by_cases c39 : (ji37) < (l2.length : Int)
                       ·rw [if_pos c39] at H
                        have c39b0 : decide ((ji37) < (l2.length : Int)) = true := decide_eq_true c39
                        clear c39
                        have H' := Am H
                        clear H
                        try go_wp2
                        have n0_ := Am (Kd.R_drew HO_8.out)
                        have n1_ := Am (below_drew1 HB.out)
                        clear HO_8
                        clear HB
                        have HO_8 := n0_
                        have HB := n1_
                        clear n0_ n1_
                        have p195 : 0 ≤ ((ji26) : Int) := of_decide_eq_true (by first | (with_reducible assumption) | assumption)
                        have q195 : (ji26) < (l2.length : Int) := of_decide_eq_true (by first | (with_reducible assumption) | assumption)
                        obtain ⟨ad195, e195, hx195_0⟩ := Kd.at_int HR2.out (ji26) p195 q195
                        have hw195_0 := hx195_0
                        cases e195
                        replace hx195_0 := (HB.out.cell (World.block_lt_of_cell? w _ hx195_0)).trans hx195_0
                        replace p195 := eq_true p195
                        replace q195 := eq_true q195
                        have p196 : 0 ≤ ((ji29) : Int) := of_decide_eq_true (by first | (with_reducible assumption) | assumption)
                        have q196 : (ji29) < (l2.length : Int) := of_decide_eq_true (by first | (with_reducible assumption) | assumption)
                        obtain ⟨ad196, e196, hx196_0⟩ := Kd.at_int HR2.out (ji29) p196 q196
                        have hw196_0 := hx196_0
                        obtain rfl : ad195 = ad196 := (by injection e196)
                        replace hx196_0 := (HB.out.cell (World.block_lt_of_cell? w _ hx196_0)).trans hx196_0
                        replace p196 := eq_true p196
                        replace q196 := eq_true q196
                        have p198 : 0 ≤ ((ji37) : Int) := of_decide_eq_true (by first | (with_reducible assumption) | assumption)
                        have q198 : (ji37) < (l2.length : Int) := of_decide_eq_true (by first | (with_reducible assumption) | assumption)
                        obtain ⟨ad198, e198, hx198_0⟩ := Kd.at_int HR2.out (ji37) p198 q198
                        have hw198_0 := hx198_0
                        obtain rfl : ad195 = ad198 := (by injection e198)
                        replace hx198_0 := (HB.out.cell (World.block_lt_of_cell? w _ hx198_0)).trans hx198_0
                        replace p198 := eq_true p198
                        replace q198 := eq_true q198
                        refine start_ (n := 44) (S := fun w' => w'.cell? (ad195.add ((ji26)).toNat) = some (.int .i64 (rd l2 (ji26))) ∧ w'.cell? (ad195.add ((ji29)).toNat) = some (.int .i64 (rd l2 (ji29))) ∧ w'.cell? (ad195.add ((ji37)).toNat) = some (.int .i64 (rd l2 (ji37)))) (ds := []) P0_ (by kernel_rfl) rfl rfl ⟨((HB.out.cell (World.block_lt_of_cell? w _ hw195_0)).trans hw195_0), ((HB.out.cell (World.block_lt_of_cell? w _ hw196_0)).trans hw196_0), ((HB.out.cell (World.block_lt_of_cell? w _ hw198_0)).trans hw198_0)⟩ (fun hHeld => ?_); refine with_tabW entrepotref07_Pack.tab17 entrepotref07_Pack.bits17 (fun HT_ HW_ => ?_)
                        generalize wc.drew = w40 at HO_8 HB hx195_0 hx196_0 hx198_0 hHeld ⊢
                        refine pure_ (i := 0) (N := some 44) (v := ?_) (a' := ?_) P1_ rfl rfl (any_of HT_.out (by kernel_rfl)) (fun _ _ _ h => h) (Or.inl ⟨by rfl, ?_⟩) ?_ ?_
                        rotate_left
                        ·intro w'
                         go_simp
                         with_reducible rfl
                        rotate_left
                        ·simp only [Act.put, s1_, s2_, s3_, i64_w, i32_w]
                         rfl
                        refine pure_ (i := 1) (N := some 45) (v := ?_) (a' := ?_) P2_ rfl rfl (any_of HT_.out (by kernel_rfl)) (fun _ _ _ h => h) (Or.inl ⟨by rfl, ?_⟩) ?_ ?_
                        rotate_left
                        ·intro w'
                         go_simp
                         with_reducible rfl
                        rotate_left
                        ·simp only [Act.put, s1_, s2_, s3_, i64_w, i32_w]
                         rfl
                        refine pure_ (i := 2) (N := some 46) (v := ?_) (a' := ?_) P3_ rfl rfl (any_of HT_.out (by kernel_rfl)) (fun _ _ _ h => h) (Or.inl ⟨by rfl, ?_⟩) ?_ ?_
                        rotate_left
                        ·intro w'
                         go_simp
                         with_reducible rfl
                        rotate_left
                        ·simp only [Act.put, s1_, s2_, s3_, i64_w, i32_w]
                         rfl
                        refine pure_ (i := 3) (N := some 47) (v := ?_) (a' := ?_) P4_ rfl rfl (any_of HT_.out (by kernel_rfl)) (fun _ _ _ h => h) (Or.inl ⟨by rfl, ?_⟩) ?_ ?_
                        rotate_left
                        ·intro w'
                         go_simp
                         with_reducible rfl
                        rotate_left
                        ·simp only [Act.put, s1_, s2_, s3_, i64_w, i32_w]
                         rfl
                        refine pure_ (i := 4) (N := some 48) (v := ?_) (a' := ?_) P5_ rfl rfl (any_of HT_.out (by kernel_rfl)) (fun _ _ _ h => h) (Or.inl ⟨by rfl, ?_⟩) ?_ ?_
                        rotate_left
                        ·intro w'
                         go_simp
                         with_reducible rfl
                        rotate_left
                        ·simp only [Act.put, s1_, s2_, s3_, i64_w, i32_w]
                         rfl
                        refine pure_ (i := 5) (N := some 49) (v := ?_) (a' := ?_) P6_ rfl rfl (any_of HT_.out (by kernel_rfl)) (fun _ _ _ h => h) (Or.inl ⟨by rfl, ?_⟩) ?_ ?_
                        rotate_left
                        ·intro w'
                         go_simp
                         with_reducible rfl
                        rotate_left
                        ·simp only [Act.put, s1_, s2_, s3_, i64_w, i32_w]
                         rfl
                        refine pure_ (i := 6) (N := some 50) (v := ?_) (a' := ?_) P7_ rfl rfl (any_of HT_.out (by kernel_rfl)) (fun _ _ _ h => h) (Or.inl ⟨by rfl, ?_⟩) ?_ ?_
                        rotate_left
                        ·intro w'
                         go_simp
                         with_reducible rfl
                        rotate_left
                        ·simp only [Act.put, s1_, s2_, s3_, i64_w, i32_w]
                         rfl
                        refine pure_ (i := 7) (N := some 51) (v := ?_) (a' := ?_) P8_ rfl rfl (any_of HT_.out (by kernel_rfl)) (fun _ _ _ h => h) (Or.inl ⟨by rfl, ?_⟩) ?_ ?_
                        rotate_left
                        ·intro w'
                         go_simp
                         with_reducible rfl
                        rotate_left
                        ·simp only [Act.put, s1_, s2_, s3_, i64_w, i32_w]
                         rfl
                        refine pure_ (i := 8) (N := some 52) (v := ?_) (a' := ?_) P9_ rfl rfl (any_of HT_.out (by kernel_rfl)) (fun _ _ _ h => h) (Or.inl ⟨by rfl, ?_⟩) ?_ ?_
                        rotate_left
                        ·intro w'
                         go_simp
                         with_reducible rfl
                        rotate_left
                        ·simp only [Act.put, s1_, s2_, s3_, i64_w, i32_w]
                         rfl
                        refine pure_ (i := 9) (N := some 53) (v := ?_) (a' := ?_) P10_ rfl rfl (any_of HT_.out (by kernel_rfl)) (fun _ _ _ h => h) (Or.inl ⟨by rfl, ?_⟩) ?_ ?_
                        rotate_left
                        ·intro w'
                         go_simp
                         with_reducible rfl
                        rotate_left
                        ·simp only [Act.put, s1_, s2_, s3_, i64_w, i32_w]
                         rfl
                        refine pure_ (i := 11) (N := some 55) (v := ?_) (a' := ?_) P45_ rfl rfl (any_of HT_.out (by kernel_rfl)) (fun _ _ _ h => h) (Or.inl ⟨by rfl, ?_⟩) ?_ ?_
                        rotate_left
                        ·intro w'
                         go_simp
                         with_reducible rfl
                        rotate_left
                        ·simp only [Act.put, s1_, s2_, s3_, i64_w, i32_w]
                         rfl
                        refine pure_ (i := 12) (N := some 56) (v := ?_) (a' := ?_) P46_ rfl rfl (any_of HT_.out (by kernel_rfl)) (fun _ _ _ h => h) (Or.inl ⟨by rfl, ?_⟩) ?_ ?_
                        rotate_left
                        ·intro w'
                         go_simp
                         with_reducible rfl
                        rotate_left
                        ·simp only [Act.put, s1_, s2_, s3_, i64_w, i32_w]
                         rfl
                        refine pure_ (i := 13) (N := some 57) (v := ?_) (a' := ?_) P47_ rfl rfl (any_of HT_.out (by kernel_rfl)) (fun _ _ _ h => h) (Or.inl ⟨by rfl, ?_⟩) ?_ ?_
                        rotate_left
                        ·intro w'
                         go_simp
                         with_reducible rfl
                        rotate_left
                        ·simp only [Act.put, s1_, s2_, s3_, i64_w, i32_w]
                         rfl
                        refine pure_ (i := 14) (N := some 58) (v := ?_) (a' := ?_) P48_ rfl rfl (any_of HT_.out (by kernel_rfl)) (fun _ _ _ h => h) (Or.inl ⟨by rfl, ?_⟩) ?_ ?_
                        rotate_left
                        ·intro w'
                         go_simp
                         with_reducible rfl
                        rotate_left
                        ·simp only [Act.put, s1_, s2_, s3_, i64_w, i32_w]
                         rfl
                        refine pure_ (i := 15) (N := some 59) (v := ?_) (a' := ?_) P49_ rfl rfl (any_of HT_.out (by kernel_rfl)) (fun _ _ _ h => h) (Or.inl ⟨by rfl, ?_⟩) ?_ ?_
                        rotate_left
                        ·intro w'
                         go_simp
                         with_reducible rfl
                        rotate_left
                        ·simp only [Act.put, s1_, s2_, s3_, i64_w, i32_w]
                         rfl
                        refine pure_ (i := 16) (N := some 60) (v := ?_) (a' := ?_) P50_ rfl rfl (any_of HT_.out (by kernel_rfl)) (fun _ _ _ h => h) (Or.inl ⟨by rfl, ?_⟩) ?_ ?_
                        rotate_left
                        ·intro w'
                         go_simp
                         with_reducible rfl
                        rotate_left
                        ·simp only [Act.put, s1_, s2_, s3_, i64_w, i32_w]
                         rfl
                        refine pure_ (i := 17) (N := some 61) (v := ?_) (a' := ?_) P51_ rfl rfl (any_of HT_.out (by kernel_rfl)) (fun _ _ _ h => h) (Or.inl ⟨by rfl, ?_⟩) ?_ ?_
                        rotate_left
                        ·intro w'
                         go_simp
                         with_reducible rfl
                        rotate_left
                        ·simp only [Act.put, s1_, s2_, s3_, i64_w, i32_w]
                         rfl
                        refine take_ (i := 10) (N := some 54) (v := ?_) (a' := ?_) P18_ rfl rfl (take_ofW HT_.out HW_.out (by kernel_rfl)) (fun _ _ _ h => h) (Or.inl ⟨by rfl, ?_⟩) hHeld ?_ ?_
                        rotate_left
                        ·rintro w' ⟨s0, s1, s2⟩
                         go_simp
                         with_reducible rfl
                        rotate_left
                        ·simp only [Act.put, s1_, s2_, s3_, i64_w, i32_w]
                         rfl
                        refine take_ (i := 18) (N := some 62) (v := ?_) (a' := ?_) P19_ rfl rfl (take_ofW HT_.out HW_.out (by kernel_rfl)) (fun _ _ _ h => h) (Or.inl ⟨by rfl, ?_⟩) hHeld ?_ ?_
                        rotate_left
                        ·rintro w' ⟨s0, s1, s2⟩
                         go_simp
                         with_reducible rfl
                        rotate_left
                        ·simp only [Act.put, s1_, s2_, s3_, i64_w, i32_w]
                         rfl
                        refine pure_ (i := 19) (N := some 63) (v := ?_) (a' := ?_) P20_ rfl rfl (any_of HT_.out (by kernel_rfl)) (fun _ _ _ h => h) (Or.inl ⟨by rfl, ?_⟩) ?_ ?_
                        rotate_left
                        ·intro w'
                         go_simp
                         with_reducible rfl
                        rotate_left
                        ·simp only [Act.put, s1_, s2_, s3_, i64_w, i32_w]
                         rfl
                        refine pure_ (i := 20) (N := some 64) (v := ?_) (a' := ?_) P21_ rfl rfl (any_of HT_.out (by kernel_rfl)) (fun _ _ _ h => h) (Or.inl ⟨by rfl, ?_⟩) ?_ ?_
                        rotate_left
                        ·intro w'
                         go_simp
                         with_reducible rfl
                        rotate_left
                        ·simp only [Act.put, s1_, s2_, s3_, i64_w, i32_w]
                         rfl
                        refine pure_ (i := 21) (N := some 65) (v := ?_) (a' := ?_) P22_ rfl rfl (any_of HT_.out (by kernel_rfl)) (fun _ _ _ h => h) (Or.inl ⟨by rfl, ?_⟩) ?_ ?_
                        rotate_left
                        ·intro w'
                         go_simp
                         with_reducible rfl
                        rotate_left
                        ·simp only [Act.put, s1_, s2_, s3_, i64_w, i32_w]
                         rfl
                        refine pure_ (i := 22) (N := some 66) (v := ?_) (a' := ?_) P23_ rfl rfl (any_of HT_.out (by kernel_rfl)) (fun _ _ _ h => h) (Or.inl ⟨by rfl, ?_⟩) ?_ ?_
                        rotate_left
                        ·intro w'
                         go_simp
                         with_reducible rfl
                        rotate_left
                        ·simp only [Act.put, s1_, s2_, s3_, i64_w, i32_w]
                         rfl
                        refine pure_ (i := 23) (N := some 67) (v := ?_) (a' := ?_) P24_ rfl rfl (any_of HT_.out (by kernel_rfl)) (fun _ _ _ h => h) (Or.inl ⟨by rfl, ?_⟩) ?_ ?_
                        rotate_left
                        ·intro w'
                         go_simp
                         with_reducible rfl
                        rotate_left
                        ·simp only [Act.put, s1_, s2_, s3_, i64_w, i32_w]
                         rfl
                        refine pure_ (i := 24) (N := some 68) (v := ?_) (a' := ?_) P25_ rfl rfl (any_of HT_.out (by kernel_rfl)) (fun _ _ _ h => h) (Or.inl ⟨by rfl, ?_⟩) ?_ ?_
                        rotate_left
                        ·intro w'
                         go_simp
                         with_reducible rfl
                        rotate_left
                        ·simp only [Act.put, s1_, s2_, s3_, i64_w, i32_w]
                         rfl
                        refine pure_ (i := 25) (N := some 69) (v := ?_) (a' := ?_) P26_ rfl rfl (any_of HT_.out (by kernel_rfl)) (fun _ _ _ h => h) (Or.inl ⟨by rfl, ?_⟩) ?_ ?_
                        rotate_left
                        ·intro w'
                         go_simp
                         with_reducible rfl
                        rotate_left
                        ·simp only [Act.put, s1_, s2_, s3_, i64_w, i32_w]
                         rfl
                        refine pure_ (i := 26) (N := some 70) (v := ?_) (a' := ?_) P27_ rfl rfl (any_of HT_.out (by kernel_rfl)) (fun _ _ _ h => h) (Or.inl ⟨by rfl, ?_⟩) ?_ ?_
                        rotate_left
                        ·intro w'
                         go_simp
                         with_reducible rfl
                        rotate_left
                        ·simp only [Act.put, s1_, s2_, s3_, i64_w, i32_w]
                         rfl
                        refine pure_ (i := 27) (N := some 71) (v := ?_) (a' := ?_) P28_ rfl rfl (any_of HT_.out (by kernel_rfl)) (fun _ _ _ h => h) (Or.inl ⟨by rfl, ?_⟩) ?_ ?_
                        rotate_left
                        ·intro w'
                         go_simp
                         with_reducible rfl
                        rotate_left
                        ·simp only [Act.put, s1_, s2_, s3_, i64_w, i32_w]
                         rfl
                        refine pure_ (i := 28) (N := some 72) (v := ?_) (a' := ?_) P29_ rfl rfl (any_of HT_.out (by kernel_rfl)) (fun _ _ _ h => h) (Or.inl ⟨by rfl, ?_⟩) ?_ ?_
                        rotate_left
                        ·intro w'
                         go_simp
                         with_reducible rfl
                        rotate_left
                        ·simp only [Act.put, s1_, s2_, s3_, i64_w, i32_w]
                         rfl
                        refine one_ (i := 29) (N := some 73) P30_ rfl rfl (one_of HT_.out (by kernel_rfl)) (by decide) (fun K hK => ?_)
                        refine goes_ Tryd.func25 (by kernel_rfl) rfl #[.int .i64 a0, .int .i64 x11_12, .int .i64 x11_12] (by rfl) rfl rfl (by (try simp only [List.map_toArray, List.map_cons, List.map_nil]); first | done | rfl | (simp only [List.length_drop, List.length_take]; rfl)) ?_
                        with_reducible refine (entrepotref07_tells.calls kj12 a0 x11_12 x11_12 false _ A34.out).mono ?_
                        rintro e w' ⟨rfl, ⟨nd, rfl⟩⟩
                        refine ⟨_, rfl, ?_⟩
                        refine hK.out _ _ ⟨((HB.out.cell (World.block_lt_of_cell? w _ hw195_0)).trans hw195_0), ((HB.out.cell (World.block_lt_of_cell? w _ hw196_0)).trans hw196_0), ((HB.out.cell (World.block_lt_of_cell? w _ hw198_0)).trans hw198_0)⟩ (fun hHeld => ?_)
                        clear hK K
                        refine norm_ (a' := ?_) ?_ ?_
                        rotate_left
                        ·show Act.put _ (some 73) _ = _
                         simp only [Act.put, s1_, s2_, s3_, i64_w, i32_w]
                         rfl
                        refine pure_ (i := 30) (N := some 74) (v := ?_) (a' := ?_) P31_ rfl rfl (any_of HT_.out (by kernel_rfl)) (fun _ _ _ h => h) (Or.inl ⟨by rfl, ?_⟩) ?_ ?_
                        rotate_left
                        ·intro w'
                         go_simp
                         with_reducible rfl
                        rotate_left
                        ·simp only [Act.put, s1_, s2_, s3_, i64_w, i32_w]
                         rfl
                        refine pure_ (i := 31) (N := some 75) (v := ?_) (a' := ?_) P32_ rfl rfl (any_of HT_.out (by kernel_rfl)) (fun _ _ _ h => h) (Or.inl ⟨by rfl, ?_⟩) ?_ ?_
                        rotate_left
                        ·intro w'
                         go_simp
                         with_reducible rfl
                        rotate_left
                        ·simp only [Act.put, s1_, s2_, s3_, i64_w, i32_w]
                         rfl
                        refine pure_ (i := 32) (N := some 76) (v := ?_) (a' := ?_) P33_ rfl rfl (any_of HT_.out (by kernel_rfl)) (fun _ _ _ h => h) (Or.inl ⟨by rfl, ?_⟩) ?_ ?_
                        rotate_left
                        ·intro w'
                         go_simp
                         with_reducible rfl
                        rotate_left
                        ·simp only [Act.put, s1_, s2_, s3_, i64_w, i32_w]
                         rfl
                        refine pure_ (i := 33) (N := some 77) (v := ?_) (a' := ?_) P34_ rfl rfl (any_of HT_.out (by kernel_rfl)) (fun _ _ _ h => h) (Or.inl ⟨by rfl, ?_⟩) ?_ ?_
                        rotate_left
                        ·intro w'
                         go_simp
                         with_reducible rfl
                        rotate_left
                        ·simp only [Act.put, s1_, s2_, s3_, i64_w, i32_w]
                         rfl
                        refine pure_ (i := 34) (N := some 78) (v := ?_) (a' := ?_) P35_ rfl rfl (any_of HT_.out (by kernel_rfl)) (fun _ _ _ h => h) (Or.inl ⟨by rfl, ?_⟩) ?_ ?_
                        rotate_left
                        ·intro w'
                         go_simp
                         with_reducible rfl
                        rotate_left
                        ·simp only [Act.put, s1_, s2_, s3_, i64_w, i32_w]
                         rfl
                        refine pure_ (i := 35) (N := some 79) (v := ?_) (a' := ?_) P36_ rfl rfl (any_of HT_.out (by kernel_rfl)) (fun _ _ _ h => h) (Or.inl ⟨by rfl, ?_⟩) ?_ ?_
                        rotate_left
                        ·intro w'
                         go_simp
                         with_reducible rfl
                        rotate_left
                        ·simp only [Act.put, s1_, s2_, s3_, i64_w, i32_w]
                         rfl
                        refine pure_ (i := 36) (N := some 80) (v := ?_) (a' := ?_) P37_ rfl rfl (any_of HT_.out (by kernel_rfl)) (fun _ _ _ h => h) (Or.inl ⟨by rfl, ?_⟩) ?_ ?_
                        rotate_left
                        ·intro w'
                         go_simp
                         with_reducible rfl
                        rotate_left
                        ·simp only [Act.put, s1_, s2_, s3_, i64_w, i32_w]
                         rfl
                        refine pure_ (i := 37) (N := some 81) (v := ?_) (a' := ?_) P38_ rfl rfl (any_of HT_.out (by kernel_rfl)) (fun _ _ _ h => h) (Or.inl ⟨by rfl, ?_⟩) ?_ ?_
                        rotate_left
                        ·intro w'
                         go_simp
                         with_reducible rfl
                        rotate_left
                        ·simp only [Act.put, s1_, s2_, s3_, i64_w, i32_w]
                         rfl
                        refine pure_ (i := 38) (N := some 82) (v := ?_) (a' := ?_) P39_ rfl rfl (any_of HT_.out (by kernel_rfl)) (fun _ _ _ h => h) (Or.inl ⟨by rfl, ?_⟩) ?_ ?_
                        rotate_left
                        ·intro w'
                         go_simp
                         with_reducible rfl
                        rotate_left
                        ·simp only [Act.put, s1_, s2_, s3_, i64_w, i32_w]
                         rfl
                        refine pure_ (i := 39) (N := some 83) (v := ?_) (a' := ?_) P40_ rfl rfl (any_of HT_.out (by kernel_rfl)) (fun _ _ _ h => h) (Or.inl ⟨by rfl, ?_⟩) ?_ ?_
                        rotate_left
                        ·intro w'
                         go_simp
                         with_reducible rfl
                        rotate_left
                        ·simp only [Act.put, s1_, s2_, s3_, i64_w, i32_w]
                         rfl
                        refine take_ (i := 40) (N := some 84) (v := ?_) (a' := ?_) P41_ rfl rfl (take_ofW HT_.out HW_.out (by kernel_rfl)) (fun _ _ _ h => h) (Or.inl ⟨by rfl, ?_⟩) hHeld ?_ ?_
                        rotate_left
                        ·rintro w' ⟨s0, s1, s2⟩
                         go_simp
                         with_reducible rfl
                        rotate_left
                        ·simp only [Act.put, s1_, s2_, s3_, i64_w, i32_w]
                         rfl
                        refine pure_ (i := 41) (N := some 85) (v := ?_) (a' := ?_) P42_ rfl rfl (any_of HT_.out (by kernel_rfl)) (fun _ _ _ h => h) (Or.inl ⟨by rfl, ?_⟩) ?_ ?_
                        rotate_left
                        ·intro w'
                         go_simp
                         with_reducible rfl
                        rotate_left
                        ·simp only [Act.put, s1_, s2_, s3_, i64_w, i32_w]
                         rfl
                        refine pure_ (i := 42) (N := some 86) (v := ?_) (a' := ?_) P43_ rfl rfl (any_of HT_.out (by kernel_rfl)) (fun _ _ _ h => h) (Or.inl ⟨by rfl, ?_⟩) ?_ ?_
                        rotate_left
                        ·intro w'
                         go_simp
                         with_reducible rfl
                        rotate_left
                        ·simp only [Act.put, s1_, s2_, s3_, i64_w, i32_w]
                         rfl
                        refine pure_ (i := 43) (N := some 87) (v := ?_) (a' := ?_) P44_ rfl rfl (any_of HT_.out (by kernel_rfl)) (fun _ _ _ h => h) (Or.inl ⟨by rfl, ?_⟩) ?_ ?_
                        rotate_left
                        ·intro w'
                         go_simp
                         with_reducible rfl
                        rotate_left
                        ·simp only [Act.put, s1_, s2_, s3_, i64_w, i32_w]
                         rfl
                        refine done_ (done_of HT_.out (by kernel_rfl)) ?_
                        try go_wp2
                        go_meet
                        case rel => exact ⟨_, (((rd l2 (ji37)) != 0)), (by first | rfl | (simp; done) | (simp only [← hji37] <;> (first | rfl | simp)) | (simp [*]; done)), H', ⟨by have := HK1.out; have := HK2.out; have := HJ10.out; have := HJ12.out; first | omega | exact Nat.le_refl _⟩, ⟨by (with_reducible repeat (first | apply Kd.R_alloc | apply Kd.R_drewN | apply Kd.R_drew)); exact HO_8.out⟩, ⟨by repeat (first | (with_reducible first | exact HB.out | apply below_alloc | apply pw_below_drewN | apply below_drew1) | exact HB.out)⟩⟩
                       ·rw [if_neg c39] at H
                        exact absurd H (by simp)
                      ·rw [if_neg c38] at H
                       exact absurd H (by simp)
                    ·rw [if_neg c33] at H
                     have c33b0 : (x11_12 == x12_12) = false := beq_eq_false_iff_ne.mpr c33
                     have c33b1 : (x11_12 != x12_12) = true := bne_iff_ne.mpr c33
                     have H' := Am H
                     clear H
                     try go_wp2
                     have n0_ := Am (Kd.R_drew HO_8.out)
                     have n1_ := Am (below_drew1 HB.out)
                     clear HO_8
                     clear HB
                     have HO_8 := n0_
                     have HB := n1_
                     clear n0_ n1_
                     have p195 : 0 ≤ ((ji26) : Int) := of_decide_eq_true (by first | (with_reducible assumption) | assumption)
                     have q195 : (ji26) < (l2.length : Int) := of_decide_eq_true (by first | (with_reducible assumption) | assumption)
                     obtain ⟨ad195, e195, hx195_0⟩ := Kd.at_int HR2.out (ji26) p195 q195
                     have hw195_0 := hx195_0
                     cases e195
                     replace hx195_0 := (HB.out.cell (World.block_lt_of_cell? w _ hx195_0)).trans hx195_0
                     replace p195 := eq_true p195
                     replace q195 := eq_true q195
                     have p196 : 0 ≤ ((ji29) : Int) := of_decide_eq_true (by first | (with_reducible assumption) | assumption)
                     have q196 : (ji29) < (l2.length : Int) := of_decide_eq_true (by first | (with_reducible assumption) | assumption)
                     obtain ⟨ad196, e196, hx196_0⟩ := Kd.at_int HR2.out (ji29) p196 q196
                     have hw196_0 := hx196_0
                     obtain rfl : ad195 = ad196 := (by injection e196)
                     replace hx196_0 := (HB.out.cell (World.block_lt_of_cell? w _ hx196_0)).trans hx196_0
                     replace p196 := eq_true p196
                     replace q196 := eq_true q196
                     refine start_ (n := 44) (S := fun w' => w'.cell? (ad195.add ((ji26)).toNat) = some (.int .i64 (rd l2 (ji26))) ∧ w'.cell? (ad195.add ((ji29)).toNat) = some (.int .i64 (rd l2 (ji29)))) (ds := []) P0_ (by kernel_rfl) rfl rfl ⟨((HB.out.cell (World.block_lt_of_cell? w _ hw195_0)).trans hw195_0), ((HB.out.cell (World.block_lt_of_cell? w _ hw196_0)).trans hw196_0)⟩ (fun hHeld => ?_); refine with_tabW entrepotref07_Pack.tab17 entrepotref07_Pack.bits17 (fun HT_ HW_ => ?_)
                     generalize wc.drew = w41 at HO_8 HB hx195_0 hx196_0 hHeld ⊢
                     refine pure_ (i := 0) (N := some 44) (v := ?_) (a' := ?_) P1_ rfl rfl (any_of HT_.out (by kernel_rfl)) (fun _ _ _ h => h) (Or.inl ⟨by rfl, ?_⟩) ?_ ?_
                     rotate_left
                     ·intro w'
                      go_simp
                      with_reducible rfl
                     rotate_left
                     ·simp only [Act.put, s1_, s2_, s3_, i64_w, i32_w]
                      rfl
                     refine pure_ (i := 1) (N := some 45) (v := ?_) (a' := ?_) P2_ rfl rfl (any_of HT_.out (by kernel_rfl)) (fun _ _ _ h => h) (Or.inl ⟨by rfl, ?_⟩) ?_ ?_
                     rotate_left
                     ·intro w'
                      go_simp
                      with_reducible rfl
                     rotate_left
                     ·simp only [Act.put, s1_, s2_, s3_, i64_w, i32_w]
                      rfl
                     refine pure_ (i := 2) (N := some 46) (v := ?_) (a' := ?_) P3_ rfl rfl (any_of HT_.out (by kernel_rfl)) (fun _ _ _ h => h) (Or.inl ⟨by rfl, ?_⟩) ?_ ?_
                     rotate_left
                     ·intro w'
                      go_simp
                      with_reducible rfl
                     rotate_left
                     ·simp only [Act.put, s1_, s2_, s3_, i64_w, i32_w]
                      rfl
                     refine pure_ (i := 3) (N := some 47) (v := ?_) (a' := ?_) P4_ rfl rfl (any_of HT_.out (by kernel_rfl)) (fun _ _ _ h => h) (Or.inl ⟨by rfl, ?_⟩) ?_ ?_
                     rotate_left
                     ·intro w'
                      go_simp
                      with_reducible rfl
                     rotate_left
                     ·simp only [Act.put, s1_, s2_, s3_, i64_w, i32_w]
                      rfl
                     refine pure_ (i := 4) (N := some 48) (v := ?_) (a' := ?_) P5_ rfl rfl (any_of HT_.out (by kernel_rfl)) (fun _ _ _ h => h) (Or.inl ⟨by rfl, ?_⟩) ?_ ?_
                     rotate_left
                     ·intro w'
                      go_simp
                      with_reducible rfl
                     rotate_left
                     ·simp only [Act.put, s1_, s2_, s3_, i64_w, i32_w]
                      rfl
                     refine pure_ (i := 5) (N := some 49) (v := ?_) (a' := ?_) P6_ rfl rfl (any_of HT_.out (by kernel_rfl)) (fun _ _ _ h => h) (Or.inl ⟨by rfl, ?_⟩) ?_ ?_
                     rotate_left
                     ·intro w'
                      go_simp
                      with_reducible rfl
                     rotate_left
                     ·simp only [Act.put, s1_, s2_, s3_, i64_w, i32_w]
                      rfl
                     refine pure_ (i := 6) (N := some 50) (v := ?_) (a' := ?_) P7_ rfl rfl (any_of HT_.out (by kernel_rfl)) (fun _ _ _ h => h) (Or.inl ⟨by rfl, ?_⟩) ?_ ?_
                     rotate_left
                     ·intro w'
                      go_simp
                      with_reducible rfl
                     rotate_left
                     ·simp only [Act.put, s1_, s2_, s3_, i64_w, i32_w]
                      rfl
                     refine pure_ (i := 7) (N := some 51) (v := ?_) (a' := ?_) P8_ rfl rfl (any_of HT_.out (by kernel_rfl)) (fun _ _ _ h => h) (Or.inl ⟨by rfl, ?_⟩) ?_ ?_
                     rotate_left
                     ·intro w'
                      go_simp
                      with_reducible rfl
                     rotate_left
                     ·simp only [Act.put, s1_, s2_, s3_, i64_w, i32_w]
                      rfl
                     refine pure_ (i := 8) (N := some 52) (v := ?_) (a' := ?_) P9_ rfl rfl (any_of HT_.out (by kernel_rfl)) (fun _ _ _ h => h) (Or.inl ⟨by rfl, ?_⟩) ?_ ?_
                     rotate_left
                     ·intro w'
                      go_simp
                      with_reducible rfl
                     rotate_left
                     ·simp only [Act.put, s1_, s2_, s3_, i64_w, i32_w]
                      rfl
                     refine pure_ (i := 9) (N := some 53) (v := ?_) (a' := ?_) P10_ rfl rfl (any_of HT_.out (by kernel_rfl)) (fun _ _ _ h => h) (Or.inl ⟨by rfl, ?_⟩) ?_ ?_
                     rotate_left
                     ·intro w'
                      go_simp
                      with_reducible rfl
                     rotate_left
                     ·simp only [Act.put, s1_, s2_, s3_, i64_w, i32_w]
                      rfl
                     refine pure_ (i := 11) (N := some 55) (v := ?_) (a' := ?_) P45_ rfl rfl (any_of HT_.out (by kernel_rfl)) (fun _ _ _ h => h) (Or.inl ⟨by rfl, ?_⟩) ?_ ?_
                     rotate_left
                     ·intro w'
                      go_simp
                      with_reducible rfl
                     rotate_left
                     ·simp only [Act.put, s1_, s2_, s3_, i64_w, i32_w]
                      rfl
                     refine pure_ (i := 12) (N := some 56) (v := ?_) (a' := ?_) P46_ rfl rfl (any_of HT_.out (by kernel_rfl)) (fun _ _ _ h => h) (Or.inl ⟨by rfl, ?_⟩) ?_ ?_
                     rotate_left
                     ·intro w'
                      go_simp
                      with_reducible rfl
                     rotate_left
                     ·simp only [Act.put, s1_, s2_, s3_, i64_w, i32_w]
                      rfl
                     refine pure_ (i := 13) (N := some 57) (v := ?_) (a' := ?_) P47_ rfl rfl (any_of HT_.out (by kernel_rfl)) (fun _ _ _ h => h) (Or.inl ⟨by rfl, ?_⟩) ?_ ?_
                     rotate_left
                     ·intro w'
                      go_simp
                      with_reducible rfl
                     rotate_left
                     ·simp only [Act.put, s1_, s2_, s3_, i64_w, i32_w]
                      rfl
                     refine pure_ (i := 14) (N := some 58) (v := ?_) (a' := ?_) P48_ rfl rfl (any_of HT_.out (by kernel_rfl)) (fun _ _ _ h => h) (Or.inl ⟨by rfl, ?_⟩) ?_ ?_
                     rotate_left
                     ·intro w'
                      go_simp
                      with_reducible rfl
                     rotate_left
                     ·simp only [Act.put, s1_, s2_, s3_, i64_w, i32_w]
                      rfl
                     refine pure_ (i := 15) (N := some 59) (v := ?_) (a' := ?_) P49_ rfl rfl (any_of HT_.out (by kernel_rfl)) (fun _ _ _ h => h) (Or.inl ⟨by rfl, ?_⟩) ?_ ?_
                     rotate_left
                     ·intro w'
                      go_simp
                      with_reducible rfl
                     rotate_left
                     ·simp only [Act.put, s1_, s2_, s3_, i64_w, i32_w]
                      rfl
                     refine pure_ (i := 16) (N := some 60) (v := ?_) (a' := ?_) P50_ rfl rfl (any_of HT_.out (by kernel_rfl)) (fun _ _ _ h => h) (Or.inl ⟨by rfl, ?_⟩) ?_ ?_
                     rotate_left
                     ·intro w'
                      go_simp
                      with_reducible rfl
                     rotate_left
                     ·simp only [Act.put, s1_, s2_, s3_, i64_w, i32_w]
                      rfl
                     refine pure_ (i := 17) (N := some 61) (v := ?_) (a' := ?_) P51_ rfl rfl (any_of HT_.out (by kernel_rfl)) (fun _ _ _ h => h) (Or.inl ⟨by rfl, ?_⟩) ?_ ?_
                     rotate_left
                     ·intro w'
                      go_simp
                      with_reducible rfl
                     rotate_left
                     ·simp only [Act.put, s1_, s2_, s3_, i64_w, i32_w]
                      rfl
                     refine take_ (i := 10) (N := some 54) (v := ?_) (a' := ?_) P18_ rfl rfl (take_ofW HT_.out HW_.out (by kernel_rfl)) (fun _ _ _ h => h) (Or.inl ⟨by rfl, ?_⟩) hHeld ?_ ?_
                     rotate_left
                     ·rintro w' ⟨s0, s1⟩
                      go_simp
                      with_reducible rfl
                     rotate_left
                     ·simp only [Act.put, s1_, s2_, s3_, i64_w, i32_w]
                      rfl
                     refine take_ (i := 18) (N := some 62) (v := ?_) (a' := ?_) P19_ rfl rfl (take_ofW HT_.out HW_.out (by kernel_rfl)) (fun _ _ _ h => h) (Or.inl ⟨by rfl, ?_⟩) hHeld ?_ ?_
                     rotate_left
                     ·rintro w' ⟨s0, s1⟩
                      go_simp
                      with_reducible rfl
                     rotate_left
                     ·simp only [Act.put, s1_, s2_, s3_, i64_w, i32_w]
                      rfl
                     refine pure_ (i := 19) (N := some 63) (v := ?_) (a' := ?_) P20_ rfl rfl (any_of HT_.out (by kernel_rfl)) (fun _ _ _ h => h) (Or.inl ⟨by rfl, ?_⟩) ?_ ?_
                     rotate_left
                     ·intro w'
                      go_simp
                      with_reducible rfl
                     rotate_left
                     ·simp only [Act.put, s1_, s2_, s3_, i64_w, i32_w]
                      rfl
                     refine pure_ (i := 20) (N := some 64) (v := ?_) (a' := ?_) P21_ rfl rfl (any_of HT_.out (by kernel_rfl)) (fun _ _ _ h => h) (Or.inl ⟨by rfl, ?_⟩) ?_ ?_
                     rotate_left
                     ·intro w'
                      go_simp
                      with_reducible rfl
                     rotate_left
                     ·simp only [Act.put, s1_, s2_, s3_, i64_w, i32_w]
                      rfl
                     refine pure_ (i := 21) (N := some 65) (v := ?_) (a' := ?_) P22_ rfl rfl (any_of HT_.out (by kernel_rfl)) (fun _ _ _ h => h) (Or.inl ⟨by rfl, ?_⟩) ?_ ?_
                     rotate_left
                     ·intro w'
                      go_simp
                      with_reducible rfl
                     rotate_left
                     ·simp only [Act.put, s1_, s2_, s3_, i64_w, i32_w]
                      rfl
                     refine pure_ (i := 22) (N := some 66) (v := ?_) (a' := ?_) P23_ rfl rfl (any_of HT_.out (by kernel_rfl)) (fun _ _ _ h => h) (Or.inl ⟨by rfl, ?_⟩) ?_ ?_
                     rotate_left
                     ·intro w'
                      go_simp
                      with_reducible rfl
                     rotate_left
                     ·simp only [Act.put, s1_, s2_, s3_, i64_w, i32_w]
                      rfl
                     refine pure_ (i := 23) (N := some 67) (v := ?_) (a' := ?_) P24_ rfl rfl (any_of HT_.out (by kernel_rfl)) (fun _ _ _ h => h) (Or.inl ⟨by rfl, ?_⟩) ?_ ?_
                     rotate_left
                     ·intro w'
                      go_simp
                      with_reducible rfl
                     rotate_left
                     ·simp only [Act.put, s1_, s2_, s3_, i64_w, i32_w]
                      rfl
                     refine pure_ (i := 24) (N := some 68) (v := ?_) (a' := ?_) P25_ rfl rfl (any_of HT_.out (by kernel_rfl)) (fun _ _ _ h => h) (Or.inl ⟨by rfl, ?_⟩) ?_ ?_
                     rotate_left
                     ·intro w'
                      go_simp
                      with_reducible rfl
                     rotate_left
                     ·simp only [Act.put, s1_, s2_, s3_, i64_w, i32_w]
                      rfl
                     refine pure_ (i := 25) (N := some 69) (v := ?_) (a' := ?_) P26_ rfl rfl (any_of HT_.out (by kernel_rfl)) (fun _ _ _ h => h) (Or.inl ⟨by rfl, ?_⟩) ?_ ?_
                     rotate_left
                     ·intro w'
                      go_simp
                      with_reducible rfl
                     rotate_left
                     ·simp only [Act.put, s1_, s2_, s3_, i64_w, i32_w]
                      rfl
                     refine pure_ (i := 26) (N := some 70) (v := undef) (a' := ?_) P27_ rfl rfl (any_of HT_.out (by kernel_rfl)) (fun _ _ _ h => h) (Or.inr ⟨by rfl, rfl⟩) ?_ ?_
                     rotate_left
                     ·simp only [Act.put, s1_, s2_, s3_, i64_w, i32_w]
                      rfl
                     refine pure_ (i := 27) (N := some 71) (v := undef) (a' := ?_) P28_ rfl rfl (any_of HT_.out (by kernel_rfl)) (fun _ _ _ h => h) (Or.inr ⟨by rfl, rfl⟩) ?_ ?_
                     rotate_left
                     ·simp only [Act.put, s1_, s2_, s3_, i64_w, i32_w]
                      rfl
                     refine pure_ (i := 28) (N := some 72) (v := undef) (a' := ?_) P29_ rfl rfl (any_of HT_.out (by kernel_rfl)) (fun _ _ _ h => h) (Or.inr ⟨by rfl, rfl⟩) ?_ ?_
                     rotate_left
                     ·simp only [Act.put, s1_, s2_, s3_, i64_w, i32_w]
                      rfl
                     refine pure_ (i := 29) (N := some 73) (v := undef) (a' := ?_) P30_ rfl rfl (any_of HT_.out (by kernel_rfl)) (fun _ _ _ h => h) (Or.inr ⟨by rfl, rfl⟩) ?_ ?_
                     rotate_left
                     ·simp only [Act.put, s1_, s2_, s3_, i64_w, i32_w]
                      rfl
                     refine pure_ (i := 30) (N := some 74) (v := undef) (a' := ?_) P31_ rfl rfl (any_of HT_.out (by kernel_rfl)) (fun _ _ _ h => h) (Or.inr ⟨by rfl, rfl⟩) ?_ ?_
                     rotate_left
                     ·simp only [Act.put, s1_, s2_, s3_, i64_w, i32_w]
                      rfl
                     refine pure_ (i := 31) (N := some 75) (v := ?_) (a' := ?_) P32_ rfl rfl (any_of HT_.out (by kernel_rfl)) (fun _ _ _ h => h) (Or.inl ⟨by rfl, ?_⟩) ?_ ?_
                     rotate_left
                     ·intro w'
                      go_simp
                      with_reducible rfl
                     rotate_left
                     ·simp only [Act.put, s1_, s2_, s3_, i64_w, i32_w]
                      rfl
                     refine pure_ (i := 32) (N := some 76) (v := ?_) (a' := ?_) P33_ rfl rfl (any_of HT_.out (by kernel_rfl)) (fun _ _ _ h => h) (Or.inl ⟨by rfl, ?_⟩) ?_ ?_
                     rotate_left
                     ·intro w'
                      go_simp
                      with_reducible rfl
                     rotate_left
                     ·simp only [Act.put, s1_, s2_, s3_, i64_w, i32_w]
                      rfl
                     refine pure_ (i := 33) (N := some 77) (v := undef) (a' := ?_) P34_ rfl rfl (any_of HT_.out (by kernel_rfl)) (fun _ _ _ h => h) (Or.inr ⟨by rfl, rfl⟩) ?_ ?_
                     rotate_left
                     ·simp only [Act.put, s1_, s2_, s3_, i64_w, i32_w]
                      rfl
                     refine pure_ (i := 34) (N := some 78) (v := undef) (a' := ?_) P35_ rfl rfl (any_of HT_.out (by kernel_rfl)) (fun _ _ _ h => h) (Or.inr ⟨by rfl, rfl⟩) ?_ ?_
                     rotate_left
                     ·simp only [Act.put, s1_, s2_, s3_, i64_w, i32_w]
                      rfl
                     refine pure_ (i := 35) (N := some 79) (v := undef) (a' := ?_) P36_ rfl rfl (any_of HT_.out (by kernel_rfl)) (fun _ _ _ h => h) (Or.inr ⟨by rfl, rfl⟩) ?_ ?_
                     rotate_left
                     ·simp only [Act.put, s1_, s2_, s3_, i64_w, i32_w]
                      rfl
                     refine pure_ (i := 36) (N := some 80) (v := undef) (a' := ?_) P37_ rfl rfl (any_of HT_.out (by kernel_rfl)) (fun _ _ _ h => h) (Or.inr ⟨by rfl, rfl⟩) ?_ ?_
                     rotate_left
                     ·simp only [Act.put, s1_, s2_, s3_, i64_w, i32_w]
                      rfl
                     refine pure_ (i := 37) (N := some 81) (v := undef) (a' := ?_) P38_ rfl rfl (any_of HT_.out (by kernel_rfl)) (fun _ _ _ h => h) (Or.inr ⟨by rfl, rfl⟩) ?_ ?_
                     rotate_left
                     ·simp only [Act.put, s1_, s2_, s3_, i64_w, i32_w]
                      rfl
                     refine pure_ (i := 38) (N := some 82) (v := undef) (a' := ?_) P39_ rfl rfl (any_of HT_.out (by kernel_rfl)) (fun _ _ _ h => h) (Or.inr ⟨by rfl, rfl⟩) ?_ ?_
                     rotate_left
                     ·simp only [Act.put, s1_, s2_, s3_, i64_w, i32_w]
                      rfl
                     refine pure_ (i := 39) (N := some 83) (v := undef) (a' := ?_) P40_ rfl rfl (any_of HT_.out (by kernel_rfl)) (fun _ _ _ h => h) (Or.inr ⟨by rfl, rfl⟩) ?_ ?_
                     rotate_left
                     ·simp only [Act.put, s1_, s2_, s3_, i64_w, i32_w]
                      rfl
                     refine pure_ (i := 40) (N := some 84) (v := undef) (a' := ?_) P41_ rfl rfl (any_of HT_.out (by kernel_rfl)) (fun _ _ _ h => h) (Or.inr ⟨by rfl, rfl⟩) ?_ ?_
                     rotate_left
                     ·simp only [Act.put, s1_, s2_, s3_, i64_w, i32_w]
                      rfl
                     refine pure_ (i := 41) (N := some 85) (v := undef) (a' := ?_) P42_ rfl rfl (any_of HT_.out (by kernel_rfl)) (fun _ _ _ h => h) (Or.inr ⟨by rfl, rfl⟩) ?_ ?_
                     rotate_left
                     ·simp only [Act.put, s1_, s2_, s3_, i64_w, i32_w]
                      rfl
                     refine pure_ (i := 42) (N := some 86) (v := ?_) (a' := ?_) P43_ rfl rfl (any_of HT_.out (by kernel_rfl)) (fun _ _ _ h => h) (Or.inl ⟨by rfl, ?_⟩) ?_ ?_
                     rotate_left
                     ·intro w'
                      go_simp
                      with_reducible rfl
                     rotate_left
                     ·simp only [Act.put, s1_, s2_, s3_, i64_w, i32_w]
                      rfl
                     refine pure_ (i := 43) (N := some 87) (v := ?_) (a' := ?_) P44_ rfl rfl (any_of HT_.out (by kernel_rfl)) (fun _ _ _ h => h) (Or.inl ⟨by rfl, ?_⟩) ?_ ?_
                     rotate_left
                     ·intro w'
                      go_simp
                      with_reducible rfl
                     rotate_left
                     ·simp only [Act.put, s1_, s2_, s3_, i64_w, i32_w]
                      rfl
                     refine done_ (done_of HT_.out (by kernel_rfl)) ?_
                     try go_wp2
                     go_meet
                     case rel => exact ⟨_, (false), (by first | rfl | (simp; done) | (simp [*]; done)), H', ⟨by have := HK1.out; have := HK2.out; have := HJ10.out; have := HJ12.out; first | omega | exact Nat.le_refl _⟩, ⟨by (with_reducible repeat (first | apply Kd.R_alloc | apply Kd.R_drewN | apply Kd.R_drew)); exact HO_8.out⟩, ⟨by repeat (first | (with_reducible first | exact HB.out | apply below_alloc | apply pw_below_drewN | apply below_drew1) | exact HB.out)⟩⟩
                   ·rw [if_neg c32] at H
                    have c32b0 : ((rd l2 (ji26)) == (rd l2 (ji29))) = false := beq_eq_false_iff_ne.mpr c32
                    have c32b1 : ((rd l2 (ji26)) != (rd l2 (ji29))) = true := bne_iff_ne.mpr c32
                    have H' := Am H
                    clear H
                    try go_wp2
                    have n0_ := Am (Kd.R_drew HO_8.out)
                    have n1_ := Am (below_drew1 HB.out)
                    clear HO_8
                    clear HB
                    have HO_8 := n0_
                    have HB := n1_
                    clear n0_ n1_
                    have p195 : 0 ≤ ((ji26) : Int) := of_decide_eq_true (by first | (with_reducible assumption) | assumption)
                    have q195 : (ji26) < (l2.length : Int) := of_decide_eq_true (by first | (with_reducible assumption) | assumption)
                    obtain ⟨ad195, e195, hx195_0⟩ := Kd.at_int HR2.out (ji26) p195 q195
                    have hw195_0 := hx195_0
                    cases e195
                    replace hx195_0 := (HB.out.cell (World.block_lt_of_cell? w _ hx195_0)).trans hx195_0
                    replace p195 := eq_true p195
                    replace q195 := eq_true q195
                    have p196 : 0 ≤ ((ji29) : Int) := of_decide_eq_true (by first | (with_reducible assumption) | assumption)
                    have q196 : (ji29) < (l2.length : Int) := of_decide_eq_true (by first | (with_reducible assumption) | assumption)
                    obtain ⟨ad196, e196, hx196_0⟩ := Kd.at_int HR2.out (ji29) p196 q196
                    have hw196_0 := hx196_0
                    obtain rfl : ad195 = ad196 := (by injection e196)
                    replace hx196_0 := (HB.out.cell (World.block_lt_of_cell? w _ hx196_0)).trans hx196_0
                    replace p196 := eq_true p196
                    replace q196 := eq_true q196
                    refine start_ (n := 44) (S := fun w' => w'.cell? (ad195.add ((ji26)).toNat) = some (.int .i64 (rd l2 (ji26))) ∧ w'.cell? (ad195.add ((ji29)).toNat) = some (.int .i64 (rd l2 (ji29)))) (ds := []) P0_ (by kernel_rfl) rfl rfl ⟨((HB.out.cell (World.block_lt_of_cell? w _ hw195_0)).trans hw195_0), ((HB.out.cell (World.block_lt_of_cell? w _ hw196_0)).trans hw196_0)⟩ (fun hHeld => ?_); refine with_tabW entrepotref07_Pack.tab17 entrepotref07_Pack.bits17 (fun HT_ HW_ => ?_)
                    generalize wc.drew = w42 at HO_8 HB hx195_0 hx196_0 hHeld ⊢
                    refine pure_ (i := 0) (N := some 44) (v := ?_) (a' := ?_) P1_ rfl rfl (any_of HT_.out (by kernel_rfl)) (fun _ _ _ h => h) (Or.inl ⟨by rfl, ?_⟩) ?_ ?_
                    rotate_left
                    ·intro w'
                     go_simp
                     with_reducible rfl
                    rotate_left
                    ·simp only [Act.put, s1_, s2_, s3_, i64_w, i32_w]
                     rfl
                    refine pure_ (i := 1) (N := some 45) (v := ?_) (a' := ?_) P2_ rfl rfl (any_of HT_.out (by kernel_rfl)) (fun _ _ _ h => h) (Or.inl ⟨by rfl, ?_⟩) ?_ ?_
                    rotate_left
                    ·intro w'
                     go_simp
                     with_reducible rfl
                    rotate_left
                    ·simp only [Act.put, s1_, s2_, s3_, i64_w, i32_w]
                     rfl
                    refine pure_ (i := 2) (N := some 46) (v := ?_) (a' := ?_) P3_ rfl rfl (any_of HT_.out (by kernel_rfl)) (fun _ _ _ h => h) (Or.inl ⟨by rfl, ?_⟩) ?_ ?_
                    rotate_left
                    ·intro w'
                     go_simp
                     with_reducible rfl
                    rotate_left
                    ·simp only [Act.put, s1_, s2_, s3_, i64_w, i32_w]
                     rfl
                    refine pure_ (i := 3) (N := some 47) (v := ?_) (a' := ?_) P4_ rfl rfl (any_of HT_.out (by kernel_rfl)) (fun _ _ _ h => h) (Or.inl ⟨by rfl, ?_⟩) ?_ ?_
                    rotate_left
                    ·intro w'
                     go_simp
                     with_reducible rfl
                    rotate_left
                    ·simp only [Act.put, s1_, s2_, s3_, i64_w, i32_w]
                     rfl
                    refine pure_ (i := 4) (N := some 48) (v := ?_) (a' := ?_) P5_ rfl rfl (any_of HT_.out (by kernel_rfl)) (fun _ _ _ h => h) (Or.inl ⟨by rfl, ?_⟩) ?_ ?_
                    rotate_left
                    ·intro w'
                     go_simp
                     with_reducible rfl
                    rotate_left
                    ·simp only [Act.put, s1_, s2_, s3_, i64_w, i32_w]
                     rfl
                    refine pure_ (i := 5) (N := some 49) (v := ?_) (a' := ?_) P6_ rfl rfl (any_of HT_.out (by kernel_rfl)) (fun _ _ _ h => h) (Or.inl ⟨by rfl, ?_⟩) ?_ ?_
                    rotate_left
                    ·intro w'
                     go_simp
                     with_reducible rfl
                    rotate_left
                    ·simp only [Act.put, s1_, s2_, s3_, i64_w, i32_w]
                     rfl
                    refine pure_ (i := 6) (N := some 50) (v := ?_) (a' := ?_) P7_ rfl rfl (any_of HT_.out (by kernel_rfl)) (fun _ _ _ h => h) (Or.inl ⟨by rfl, ?_⟩) ?_ ?_
                    rotate_left
                    ·intro w'
                     go_simp
                     with_reducible rfl
                    rotate_left
                    ·simp only [Act.put, s1_, s2_, s3_, i64_w, i32_w]
                     rfl
                    refine pure_ (i := 7) (N := some 51) (v := ?_) (a' := ?_) P8_ rfl rfl (any_of HT_.out (by kernel_rfl)) (fun _ _ _ h => h) (Or.inl ⟨by rfl, ?_⟩) ?_ ?_
                    rotate_left
                    ·intro w'
                     go_simp
                     with_reducible rfl
                    rotate_left
                    ·simp only [Act.put, s1_, s2_, s3_, i64_w, i32_w]
                     rfl
                    refine pure_ (i := 8) (N := some 52) (v := ?_) (a' := ?_) P9_ rfl rfl (any_of HT_.out (by kernel_rfl)) (fun _ _ _ h => h) (Or.inl ⟨by rfl, ?_⟩) ?_ ?_
                    rotate_left
                    ·intro w'
                     go_simp
                     with_reducible rfl
                    rotate_left
                    ·simp only [Act.put, s1_, s2_, s3_, i64_w, i32_w]
                     rfl
                    refine pure_ (i := 9) (N := some 53) (v := ?_) (a' := ?_) P10_ rfl rfl (any_of HT_.out (by kernel_rfl)) (fun _ _ _ h => h) (Or.inl ⟨by rfl, ?_⟩) ?_ ?_
                    rotate_left
                    ·intro w'
                     go_simp
                     with_reducible rfl
                    rotate_left
                    ·simp only [Act.put, s1_, s2_, s3_, i64_w, i32_w]
                     rfl
                    refine pure_ (i := 11) (N := some 55) (v := ?_) (a' := ?_) P45_ rfl rfl (any_of HT_.out (by kernel_rfl)) (fun _ _ _ h => h) (Or.inl ⟨by rfl, ?_⟩) ?_ ?_
                    rotate_left
                    ·intro w'
                     go_simp
                     with_reducible rfl
                    rotate_left
                    ·simp only [Act.put, s1_, s2_, s3_, i64_w, i32_w]
                     rfl
                    refine pure_ (i := 12) (N := some 56) (v := ?_) (a' := ?_) P46_ rfl rfl (any_of HT_.out (by kernel_rfl)) (fun _ _ _ h => h) (Or.inl ⟨by rfl, ?_⟩) ?_ ?_
                    rotate_left
                    ·intro w'
                     go_simp
                     with_reducible rfl
                    rotate_left
                    ·simp only [Act.put, s1_, s2_, s3_, i64_w, i32_w]
                     rfl
                    refine pure_ (i := 13) (N := some 57) (v := ?_) (a' := ?_) P47_ rfl rfl (any_of HT_.out (by kernel_rfl)) (fun _ _ _ h => h) (Or.inl ⟨by rfl, ?_⟩) ?_ ?_
                    rotate_left
                    ·intro w'
                     go_simp
                     with_reducible rfl
                    rotate_left
                    ·simp only [Act.put, s1_, s2_, s3_, i64_w, i32_w]
                     rfl
                    refine pure_ (i := 14) (N := some 58) (v := ?_) (a' := ?_) P48_ rfl rfl (any_of HT_.out (by kernel_rfl)) (fun _ _ _ h => h) (Or.inl ⟨by rfl, ?_⟩) ?_ ?_
                    rotate_left
                    ·intro w'
                     go_simp
                     with_reducible rfl
                    rotate_left
                    ·simp only [Act.put, s1_, s2_, s3_, i64_w, i32_w]
                     rfl
                    refine pure_ (i := 15) (N := some 59) (v := ?_) (a' := ?_) P49_ rfl rfl (any_of HT_.out (by kernel_rfl)) (fun _ _ _ h => h) (Or.inl ⟨by rfl, ?_⟩) ?_ ?_
                    rotate_left
                    ·intro w'
                     go_simp
                     with_reducible rfl
                    rotate_left
                    ·simp only [Act.put, s1_, s2_, s3_, i64_w, i32_w]
                     rfl
                    refine pure_ (i := 16) (N := some 60) (v := ?_) (a' := ?_) P50_ rfl rfl (any_of HT_.out (by kernel_rfl)) (fun _ _ _ h => h) (Or.inl ⟨by rfl, ?_⟩) ?_ ?_
                    rotate_left
                    ·intro w'
                     go_simp
                     with_reducible rfl
                    rotate_left
                    ·simp only [Act.put, s1_, s2_, s3_, i64_w, i32_w]
                     rfl
                    refine pure_ (i := 17) (N := some 61) (v := ?_) (a' := ?_) P51_ rfl rfl (any_of HT_.out (by kernel_rfl)) (fun _ _ _ h => h) (Or.inl ⟨by rfl, ?_⟩) ?_ ?_
                    rotate_left
                    ·intro w'
                     go_simp
                     with_reducible rfl
                    rotate_left
                    ·simp only [Act.put, s1_, s2_, s3_, i64_w, i32_w]
                     rfl
                    refine take_ (i := 10) (N := some 54) (v := ?_) (a' := ?_) P18_ rfl rfl (take_ofW HT_.out HW_.out (by kernel_rfl)) (fun _ _ _ h => h) (Or.inl ⟨by rfl, ?_⟩) hHeld ?_ ?_
                    rotate_left
                    ·rintro w' ⟨s0, s1⟩
                     go_simp
                     with_reducible rfl
                    rotate_left
                    ·simp only [Act.put, s1_, s2_, s3_, i64_w, i32_w]
                     rfl
                    refine take_ (i := 18) (N := some 62) (v := ?_) (a' := ?_) P19_ rfl rfl (take_ofW HT_.out HW_.out (by kernel_rfl)) (fun _ _ _ h => h) (Or.inl ⟨by rfl, ?_⟩) hHeld ?_ ?_
                    rotate_left
                    ·rintro w' ⟨s0, s1⟩
                     go_simp
                     with_reducible rfl
                    rotate_left
                    ·simp only [Act.put, s1_, s2_, s3_, i64_w, i32_w]
                     rfl
                    refine pure_ (i := 19) (N := some 63) (v := ?_) (a' := ?_) P20_ rfl rfl (any_of HT_.out (by kernel_rfl)) (fun _ _ _ h => h) (Or.inl ⟨by rfl, ?_⟩) ?_ ?_
                    rotate_left
                    ·intro w'
                     go_simp
                     with_reducible rfl
                    rotate_left
                    ·simp only [Act.put, s1_, s2_, s3_, i64_w, i32_w]
                     rfl
                    refine pure_ (i := 20) (N := some 64) (v := ?_) (a' := ?_) P21_ rfl rfl (any_of HT_.out (by kernel_rfl)) (fun _ _ _ h => h) (Or.inl ⟨by rfl, ?_⟩) ?_ ?_
                    rotate_left
                    ·intro w'
                     go_simp
                     with_reducible rfl
                    rotate_left
                    ·simp only [Act.put, s1_, s2_, s3_, i64_w, i32_w]
                     rfl
                    refine pure_ (i := 21) (N := some 65) (v := ?_) (a' := ?_) P22_ rfl rfl (any_of HT_.out (by kernel_rfl)) (fun _ _ _ h => h) (Or.inl ⟨by rfl, ?_⟩) ?_ ?_
                    rotate_left
                    ·intro w'
                     go_simp
                     with_reducible rfl
                    rotate_left
                    ·simp only [Act.put, s1_, s2_, s3_, i64_w, i32_w]
                     rfl
                    refine pure_ (i := 22) (N := some 66) (v := undef) (a' := ?_) P23_ rfl rfl (any_of HT_.out (by kernel_rfl)) (fun _ _ _ h => h) (Or.inr ⟨by rfl, rfl⟩) ?_ ?_
                    rotate_left
                    ·simp only [Act.put, s1_, s2_, s3_, i64_w, i32_w]
                     rfl
                    refine pure_ (i := 23) (N := some 67) (v := undef) (a' := ?_) P24_ rfl rfl (any_of HT_.out (by kernel_rfl)) (fun _ _ _ h => h) (Or.inr ⟨by rfl, rfl⟩) ?_ ?_
                    rotate_left
                    ·simp only [Act.put, s1_, s2_, s3_, i64_w, i32_w]
                     rfl
                    refine pure_ (i := 24) (N := some 68) (v := undef) (a' := ?_) P25_ rfl rfl (any_of HT_.out (by kernel_rfl)) (fun _ _ _ h => h) (Or.inr ⟨by rfl, rfl⟩) ?_ ?_
                    rotate_left
                    ·simp only [Act.put, s1_, s2_, s3_, i64_w, i32_w]
                     rfl
                    refine pure_ (i := 25) (N := some 69) (v := undef) (a' := ?_) P26_ rfl rfl (any_of HT_.out (by kernel_rfl)) (fun _ _ _ h => h) (Or.inr ⟨by rfl, rfl⟩) ?_ ?_
                    rotate_left
                    ·simp only [Act.put, s1_, s2_, s3_, i64_w, i32_w]
                     rfl
                    refine pure_ (i := 26) (N := some 70) (v := undef) (a' := ?_) P27_ rfl rfl (any_of HT_.out (by kernel_rfl)) (fun _ _ _ h => h) (Or.inr ⟨by rfl, rfl⟩) ?_ ?_
                    rotate_left
                    ·simp only [Act.put, s1_, s2_, s3_, i64_w, i32_w]
                     rfl
                    refine pure_ (i := 27) (N := some 71) (v := undef) (a' := ?_) P28_ rfl rfl (any_of HT_.out (by kernel_rfl)) (fun _ _ _ h => h) (Or.inr ⟨by rfl, rfl⟩) ?_ ?_
                    rotate_left
                    ·simp only [Act.put, s1_, s2_, s3_, i64_w, i32_w]
                     rfl
                    refine pure_ (i := 28) (N := some 72) (v := undef) (a' := ?_) P29_ rfl rfl (any_of HT_.out (by kernel_rfl)) (fun _ _ _ h => h) (Or.inr ⟨by rfl, rfl⟩) ?_ ?_
                    rotate_left
                    ·simp only [Act.put, s1_, s2_, s3_, i64_w, i32_w]
                     rfl
                    refine pure_ (i := 29) (N := some 73) (v := undef) (a' := ?_) P30_ rfl rfl (any_of HT_.out (by kernel_rfl)) (fun _ _ _ h => h) (Or.inr ⟨by rfl, rfl⟩) ?_ ?_
                    rotate_left
                    ·simp only [Act.put, s1_, s2_, s3_, i64_w, i32_w]
                     rfl
                    refine pure_ (i := 30) (N := some 74) (v := undef) (a' := ?_) P31_ rfl rfl (any_of HT_.out (by kernel_rfl)) (fun _ _ _ h => h) (Or.inr ⟨by rfl, rfl⟩) ?_ ?_
                    rotate_left
                    ·simp only [Act.put, s1_, s2_, s3_, i64_w, i32_w]
                     rfl
                    refine pure_ (i := 31) (N := some 75) (v := undef) (a' := ?_) P32_ rfl rfl (any_of HT_.out (by kernel_rfl)) (fun _ _ _ h => h) (Or.inr ⟨by rfl, rfl⟩) ?_ ?_
                    rotate_left
                    ·simp only [Act.put, s1_, s2_, s3_, i64_w, i32_w]
                     rfl
                    refine pure_ (i := 32) (N := some 76) (v := undef) (a' := ?_) P33_ rfl rfl (any_of HT_.out (by kernel_rfl)) (fun _ _ _ h => h) (Or.inr ⟨by rfl, rfl⟩) ?_ ?_
                    rotate_left
                    ·simp only [Act.put, s1_, s2_, s3_, i64_w, i32_w]
                     rfl
                    refine pure_ (i := 33) (N := some 77) (v := undef) (a' := ?_) P34_ rfl rfl (any_of HT_.out (by kernel_rfl)) (fun _ _ _ h => h) (Or.inr ⟨by rfl, rfl⟩) ?_ ?_
                    rotate_left
                    ·simp only [Act.put, s1_, s2_, s3_, i64_w, i32_w]
                     rfl
                    refine pure_ (i := 34) (N := some 78) (v := undef) (a' := ?_) P35_ rfl rfl (any_of HT_.out (by kernel_rfl)) (fun _ _ _ h => h) (Or.inr ⟨by rfl, rfl⟩) ?_ ?_
                    rotate_left
                    ·simp only [Act.put, s1_, s2_, s3_, i64_w, i32_w]
                     rfl
                    refine pure_ (i := 35) (N := some 79) (v := undef) (a' := ?_) P36_ rfl rfl (any_of HT_.out (by kernel_rfl)) (fun _ _ _ h => h) (Or.inr ⟨by rfl, rfl⟩) ?_ ?_
                    rotate_left
                    ·simp only [Act.put, s1_, s2_, s3_, i64_w, i32_w]
                     rfl
                    refine pure_ (i := 36) (N := some 80) (v := undef) (a' := ?_) P37_ rfl rfl (any_of HT_.out (by kernel_rfl)) (fun _ _ _ h => h) (Or.inr ⟨by rfl, rfl⟩) ?_ ?_
                    rotate_left
                    ·simp only [Act.put, s1_, s2_, s3_, i64_w, i32_w]
                     rfl
                    refine pure_ (i := 37) (N := some 81) (v := undef) (a' := ?_) P38_ rfl rfl (any_of HT_.out (by kernel_rfl)) (fun _ _ _ h => h) (Or.inr ⟨by rfl, rfl⟩) ?_ ?_
                    rotate_left
                    ·simp only [Act.put, s1_, s2_, s3_, i64_w, i32_w]
                     rfl
                    refine pure_ (i := 38) (N := some 82) (v := undef) (a' := ?_) P39_ rfl rfl (any_of HT_.out (by kernel_rfl)) (fun _ _ _ h => h) (Or.inr ⟨by rfl, rfl⟩) ?_ ?_
                    rotate_left
                    ·simp only [Act.put, s1_, s2_, s3_, i64_w, i32_w]
                     rfl
                    refine pure_ (i := 39) (N := some 83) (v := undef) (a' := ?_) P40_ rfl rfl (any_of HT_.out (by kernel_rfl)) (fun _ _ _ h => h) (Or.inr ⟨by rfl, rfl⟩) ?_ ?_
                    rotate_left
                    ·simp only [Act.put, s1_, s2_, s3_, i64_w, i32_w]
                     rfl
                    refine pure_ (i := 40) (N := some 84) (v := undef) (a' := ?_) P41_ rfl rfl (any_of HT_.out (by kernel_rfl)) (fun _ _ _ h => h) (Or.inr ⟨by rfl, rfl⟩) ?_ ?_
                    rotate_left
                    ·simp only [Act.put, s1_, s2_, s3_, i64_w, i32_w]
                     rfl
                    refine pure_ (i := 41) (N := some 85) (v := undef) (a' := ?_) P42_ rfl rfl (any_of HT_.out (by kernel_rfl)) (fun _ _ _ h => h) (Or.inr ⟨by rfl, rfl⟩) ?_ ?_
                    rotate_left
                    ·simp only [Act.put, s1_, s2_, s3_, i64_w, i32_w]
                     rfl
                    refine pure_ (i := 42) (N := some 86) (v := undef) (a' := ?_) P43_ rfl rfl (any_of HT_.out (by kernel_rfl)) (fun _ _ _ h => h) (Or.inr ⟨by rfl, rfl⟩) ?_ ?_
                    rotate_left
                    ·simp only [Act.put, s1_, s2_, s3_, i64_w, i32_w]
                     rfl
                    refine pure_ (i := 43) (N := some 87) (v := ?_) (a' := ?_) P44_ rfl rfl (any_of HT_.out (by kernel_rfl)) (fun _ _ _ h => h) (Or.inl ⟨by rfl, ?_⟩) ?_ ?_
                    rotate_left
                    ·intro w'
                     go_simp
                     with_reducible rfl
                    rotate_left
                    ·simp only [Act.put, s1_, s2_, s3_, i64_w, i32_w]
                     rfl
                    refine done_ (done_of HT_.out (by kernel_rfl)) ?_
                    try go_wp2
                    go_meet
                    case rel => exact ⟨_, (true), (by first | rfl | (simp; done) | (simp [*]; done)), H', ⟨by have := HK1.out; have := HK2.out; have := HJ10.out; have := HJ12.out; first | omega | exact Nat.le_refl _⟩, ⟨by (with_reducible repeat (first | apply Kd.R_alloc | apply Kd.R_drewN | apply Kd.R_drew)); exact HO_8.out⟩, ⟨by repeat (first | (with_reducible first | exact HB.out | apply below_alloc | apply pw_below_drewN | apply below_drew1) | exact HB.out)⟩⟩
                  ·rw [if_neg c31] at H
                   exact absurd H (by simp)
                 ·rw [if_neg c30] at H
                  exact absurd H (by simp)
                ·rw [if_neg c28] at H
                 exact absurd H (by simp)
               ·rw [if_neg c27] at H
                exact absurd H (by simp)
             case rest =>
              clear HC15
              obtain ⟨kq, x87_14, rfl, HA, HJ14, HO_8, HB⟩ := hcut
              cases kq with
              | zero => exact absurd HA.out (by simp [entrepotref07_Pack.j4])
              | succ kj14 =>
               have H := HA.out
               clear HA
               simp only [entrepotref07_Pack.j4] at H
               by_cases c43 : x87_14 = true
               ·subst c43
                have H1 : (some (([] : List Int), 70)) = some (r1, r2) := by rw [if_pos rfl] at H; exact H
                clear H
                have H := H1
                clear H1
                simp only [Option.some.injEq, Prod.mk.injEq] at H
                obtain ⟨rfl, rfl⟩ := H
                go_wp2
                go_ret2
                exact ⟨_, by first | rfl | (simp [errW_none, errW_some] <;> rfl) | (simp [*, errW_none, errW_some] <;> rfl), by first | exact Kd.R_nil _ _ _ _ _ | exact Kd.N_nil _ _ _ _ _ | exact Kd.V_nil _ _ _ _ _ | exact Kd.Q_nil _ _ _ _ _ | exact Kd.S_nil _ _ _ _ _, by repeat (first | (with_reducible first | exact HB.out | apply below_alloc | apply pw_below_drewN | apply below_drew1) | exact HB.out)⟩
               ·replace c43 := Bool.eq_false_iff.mpr c43
                subst c43
                have H1 : ((entrepotref07_tells.f kj14 a0 x11_12 x12_12).bind fun t199 => (if t199 = true then (if 0 ≤ (wrap64 ((wrap64 (x11_12 * a1)) + x12_12)) then (if (wrap64 ((wrap64 (x11_12 * a1)) + x12_12)) < (l2.length : Int) then (if x8_2.length < 17592186044416 then (entrepotref07_Pack.l1 kj14 a0 a1 l2 (x8_2 ++ [rd l2 (wrap64 ((wrap64 (x11_12 * a1)) + x12_12))]) x9_1 (wrap64 (x10_2 + 1))) else (none)) else (none)) else (none)) else (entrepotref07_Pack.l1 kj14 a0 a1 l2 x8_2 x9_1 (wrap64 (x10_2 + 1))))) = some (r1, r2) := by rw [if_neg (show ¬ (false = true) by decide)] at H; exact H
                clear H
                have H := H1
                clear H1
                replace H := Option.bind_eq_some_iff.mp H
                obtain ⟨t199, A440, H⟩ := H
                replace H : (if t199 = true then (if 0 ≤ (wrap64 ((wrap64 (x11_12 * a1)) + x12_12)) then (if (wrap64 ((wrap64 (x11_12 * a1)) + x12_12)) < (l2.length : Int) then (if x8_2.length < 17592186044416 then (entrepotref07_Pack.l1 kj14 a0 a1 l2 (x8_2 ++ [rd l2 (wrap64 ((wrap64 (x11_12 * a1)) + x12_12))]) x9_1 (wrap64 (x10_2 + 1))) else (none)) else (none)) else (none)) else (entrepotref07_Pack.l1 kj14 a0 a1 l2 x8_2 x9_1 (wrap64 (x10_2 + 1)))) = some (r1, r2) := H
                have A44 := Am A440
                clear A440
                by_cases c45 : t199 = true
                ·subst c45
                 have H1 : (if 0 ≤ (wrap64 ((wrap64 (x11_12 * a1)) + x12_12)) then (if (wrap64 ((wrap64 (x11_12 * a1)) + x12_12)) < (l2.length : Int) then (if x8_2.length < 17592186044416 then (entrepotref07_Pack.l1 kj14 a0 a1 l2 (x8_2 ++ [rd l2 (wrap64 ((wrap64 (x11_12 * a1)) + x12_12))]) x9_1 (wrap64 (x10_2 + 1))) else (none)) else (none)) else (none)) = some (r1, r2) := by rw [if_pos rfl] at H; exact H
                 clear H
                 have H := H1
                 clear H1
                 obtain ⟨ji46, hji46⟩ : ∃ j_ : Int, (wrap64 ((wrap64 (x11_12 * a1)) + x12_12)) = j_ := ⟨_, rfl⟩
                 replace H : (if 0 ≤ (ji46) then (if (ji46) < (l2.length : Int) then (if x8_2.length < 17592186044416 then (entrepotref07_Pack.l1 kj14 a0 a1 l2 (x8_2 ++ [rd l2 (ji46)]) x9_1 (wrap64 (x10_2 + 1))) else (none)) else (none)) else (none)) = some (r1, r2) := by first | (rw [hji46] at H; exact H) | (simp only [hji46] at H ⊢; exact H)
                 (try rw [hji46] at A44)
                 have hji46w : (IntKind.i64.wrap ((wrap64 (x11_12 * a1)) + x12_12)) = ji46 := (i64_w _).trans hji46
                 by_cases c47 : 0 ≤ (ji46)
                 ·rw [if_pos c47] at H
                  have c47b0 : decide (0 ≤ (ji46)) = true := decide_eq_true c47
                  clear c47
                  by_cases c48 : (ji46) < (l2.length : Int)
                  ·rw [if_pos c48] at H
                   have c48b0 : decide ((ji46) < (l2.length : Int)) = true := decide_eq_true c48
                   clear c48
                   by_cases c49 : x8_2.length < 17592186044416
                   ·rw [if_pos c49] at H
                    have LMc49 := Am c49
                    clear c49
                    obtain ⟨y201, hy201⟩ : ∃ y_ : List Int, y_ = (x8_2 ++ [rd l2 (ji46)]) := ⟨_, rfl⟩
                    replace H : (entrepotref07_Pack.l1 kj14 a0 a1 l2 y201 x9_1 (wrap64 (x10_2 + 1))) = some (r1, r2) := by first | (rw [hy201]; with_reducible exact H) | (have H2_ := (Option.bind_some _ _).symm.trans H; rw [hy201]; with_reducible exact H2_) | (have H2_ := (Option.bind_some _ _).symm.trans H; with_reducible exact H2_) | with_reducible exact H | (rw [hy201]; exact H) | exact H
                    have Ny201 := Am hy201
                    clear hy201
                    have H' := Am H
                    clear H
                    go_wp2_with (first | ((with_reducible refine gate_callee (f := 25) rfl ?_); refine goesL_ (some 91) rfl rfl Tryd.func25 (by kernel_rfl) rfl #[.int .i64 a0, .int .i64 x11_12, .int .i64 x12_12] rfl (by (try simp only [List.map_toArray, List.map_cons, List.map_nil]); first | done | rfl | (simp only [List.length_drop, List.length_take]; rfl)) ?_; (with_reducible refine (entrepotref07_tells.calls kj14 a0 x11_12 x12_12 true _ A44.out).mono ?_); rintro e w' ⟨rfl, ⟨nd, rfl⟩⟩; refine ⟨_, rfl, ?_⟩; have p200 : 0 ≤ ((ji46) : Int) := of_decide_eq_true (by first | (with_reducible assumption) | assumption); have q200 : (ji46) < (l2.length : Int) := of_decide_eq_true (by first | (with_reducible assumption) | assumption); obtain ⟨ad200, e200, hx200_0⟩ := Kd.at_int HR2.out (ji46) p200 q200; cases e200; replace hx200_0 := (HB.out.cell (World.block_lt_of_cell? w _ hx200_0)).trans hx200_0; replace p200 := eq_true p200; replace q200 := eq_true q200) | ((with_reducible refine gate_builtin (b := .append) (xs := #[.tmp 92, .tmp 101]) rfl ?_); at_builtin; refine Kd.R_append (Kd.int .i64) (w0 := w) w.heap.size rfl (.tmp 92) (.tmp 101) 22 3 (.int .i64 0) 8 rfl Tryd.underlying22 info3 rfl (by decide) (by omega) u8 x8_2 (rd l2 (ji46)) [.int .i64 (rd l2 (ji46))] (fun _ => True) (fun _ => False) rfl rfl ?aP (fun _ hk => hk.elim) ?aF ?aO ?aB ?aS ?aL ?_; (case aP => exact rfl); (case aB => exact (by repeat (first | (with_reducible first | exact HB.out | apply below_alloc | apply pw_below_drewN | apply below_drew1) | exact HB.out))); (case aF => exact (fun _ _ => trivial)); (case aO => exact (by (with_reducible repeat (first | apply Kd.R_alloc | apply Kd.R_drewN | apply Kd.R_drew)); exact HO_8.out)); (case aS => exact (below_size (by repeat (first | (with_reducible first | exact HB.out | apply below_alloc | apply pw_below_drewN | apply below_drew1) | exact HB.out)))); (case aL => have := LMc49.out; omega); intro v202 w50 ho hb hg hat; rw [← Ny201.out] at ho; have n0_ := Am (hb); have n1_ := Am (ho); clear HB; clear HO_8; have HB := n0_; have HO203 := n1_; clear n0_ n1_; clear ho hb hg hat))
                    go_roundg kj14
                    case measure => have := HK1.out; have := HK2.out; have := HJ10.out; have := HJ12.out; have := HJ14.out; omega
                    case rel => exact ⟨(y201), (wrap64 (x10_2 + 1)), (by first | rfl | (simp; done) | (simp [*]; done)), H', ⟨by have := HK1.out; have := HK2.out; have := HJ10.out; have := HJ12.out; have := HJ14.out; omega⟩, ⟨by (with_reducible repeat (first | apply Kd.R_alloc | apply Kd.R_drewN | apply Kd.R_drew)); exact HO203.out⟩, ⟨by repeat (first | (with_reducible first | exact HB.out | apply below_alloc | apply pw_below_drewN | apply below_drew1) | exact HB.out)⟩⟩
                   ·rw [if_neg c49] at H
                    exact absurd H (by simp)
                  ·rw [if_neg c48] at H
                   exact absurd H (by simp)
                 ·rw [if_neg c47] at H
                  exact absurd H (by simp)
                ·replace c45 := Bool.eq_false_iff.mpr c45
                 subst c45
                 have H1 : (entrepotref07_Pack.l1 kj14 a0 a1 l2 x8_2 x9_1 (wrap64 (x10_2 + 1))) = some (r1, r2) := by rw [if_neg (show ¬ (false = true) by decide)] at H; exact H
                 clear H
                 have H := H1
                 clear H1
                 have H' := Am H
                 clear H
                 go_wp2_with (first | ((with_reducible refine gate_callee (f := 25) rfl ?_); refine goesL_ (some 91) rfl rfl Tryd.func25 (by kernel_rfl) rfl #[.int .i64 a0, .int .i64 x11_12, .int .i64 x12_12] rfl (by (try simp only [List.map_toArray, List.map_cons, List.map_nil]); first | done | rfl | (simp only [List.length_drop, List.length_take]; rfl)) ?_; (with_reducible refine (entrepotref07_tells.calls kj14 a0 x11_12 x12_12 false _ A44.out).mono ?_); rintro e w' ⟨rfl, ⟨nd, rfl⟩⟩; refine ⟨_, rfl, ?_⟩))
                 go_roundg kj14
                 case measure => have := HK1.out; have := HK2.out; have := HJ10.out; have := HJ12.out; have := HJ14.out; omega
                 case rel => exact ⟨(x8_2), (wrap64 (x10_2 + 1)), (by first | rfl | (simp; done) | (simp [*]; done)), H', ⟨by have := HK1.out; have := HK2.out; have := HJ10.out; have := HJ12.out; have := HJ14.out; omega⟩, ⟨by (with_reducible repeat (first | apply Kd.R_alloc | apply Kd.R_drewN | apply Kd.R_drew)); exact HO_8.out⟩, ⟨by repeat (first | (with_reducible first | exact HB.out | apply below_alloc | apply pw_below_drewN | apply below_drew1) | exact HB.out)⟩⟩
        ·rw [if_neg c10] at H
         have c10b0 : decide (x10_2 < a1) = false := decide_eq_false c10
         clear c10
         have H' := Am H
         clear H
         go_wp2
         go_roundg k2
         case measure => have := HK1.out; have := HK2.out; omega
         case rel => exact ⟨(x8_2), (wrap64 (x9_1 + 1)), (by first | rfl | (simp; done) | (simp [*]; done)), H', ⟨by have := HK1.out; have := HK2.out; omega⟩, ⟨by (with_reducible repeat (first | apply Kd.R_alloc | apply Kd.R_drewN | apply Kd.R_drew)); exact HO_8.out⟩, ⟨by repeat (first | (with_reducible first | exact HB.out | apply below_alloc | apply pw_below_drewN | apply below_drew1) | exact HB.out)⟩⟩
     ·rw [if_neg c9] at H
      have c9b0 : decide (x9_1 < a1) = false := decide_eq_false c9
      clear c9
      simp only [Option.some.injEq, Prod.mk.injEq] at H
      obtain ⟨rfl, rfl⟩ := H
      go_wp2
      go_ret2
      exact ⟨_, by first | rfl | (simp [errW_none, errW_some] <;> rfl) | (simp [*, errW_none, errW_some] <;> rfl), by (with_reducible repeat (first | apply Kd.R_alloc | apply Kd.R_drewN | apply Kd.R_drew)); exact HO_8.out, by repeat (first | (with_reducible first | exact HB.out | apply below_alloc | apply pw_below_drewN | apply below_drew1) | exact HB.out)⟩
  ·rw [if_neg c6] at H
   have c6b0 : ((l2.length : Int) == (wrap64 (a1 * a1))) = false := beq_eq_false_iff_ne.mpr c6
   have c6b1 : ((l2.length : Int) != (wrap64 (a1 * a1))) = true := bne_iff_ne.mpr c6
   simp only [Option.some.injEq, Prod.mk.injEq] at H
   obtain ⟨rfl, rfl⟩ := H
   go_enter Tryd.func14, Tryd.ntmps14
   go_wp2_with (first | ((with_reducible refine gate_callee (f := 24) rfl ?_); refine goesL_ (some 15) rfl rfl Tryd.func24 (by kernel_rfl) rfl #[.int .i64 a0, .int .i64 a1] rfl (by (try simp only [List.map_toArray, List.map_cons, List.map_nil]); first | done | rfl | (simp only [List.length_drop, List.length_take]; rfl)) ?_; (with_reducible refine (entrepotref07_may.calls a0 a1 true _ A4.out).mono ?_); rintro e w' ⟨rfl, ⟨nd, rfl⟩⟩; refine ⟨_, rfl, ?_⟩))
   go_ret2
   exact ⟨_, by first | rfl | (simp [errW_none, errW_some] <;> rfl) | (simp [*, errW_none, errW_some] <;> rfl), by first | exact Kd.R_nil _ _ _ _ _ | exact Kd.N_nil _ _ _ _ _ | exact Kd.V_nil _ _ _ _ _ | exact Kd.Q_nil _ _ _ _ _ | exact Kd.S_nil _ _ _ _ _, by repeat (first | (with_reducible first | exact HB.out | apply below_alloc | apply pw_below_drewN | apply below_drew1) | exact HB.out)⟩
 ·replace c5 := Bool.eq_false_iff.mpr c5
  subst c5
  have H1 : (some (([] : List Int), 1)) = some (r1, r2) := by rw [if_neg (show ¬ (false = true) by decide)] at H; exact H
  clear H
  have H := H1
  clear H1
  simp only [Option.some.injEq, Prod.mk.injEq] at H
  obtain ⟨rfl, rfl⟩ := H
  go_enter Tryd.func14, Tryd.ntmps14
  go_wp2_with (first | ((with_reducible refine gate_callee (f := 24) rfl ?_); refine goesL_ (some 15) rfl rfl Tryd.func24 (by kernel_rfl) rfl #[.int .i64 a0, .int .i64 a1] rfl (by (try simp only [List.map_toArray, List.map_cons, List.map_nil]); first | done | rfl | (simp only [List.length_drop, List.length_take]; rfl)) ?_; (with_reducible refine (entrepotref07_may.calls a0 a1 false _ A4.out).mono ?_); rintro e w' ⟨rfl, ⟨nd, rfl⟩⟩; refine ⟨_, rfl, ?_⟩))
  go_ret2
  exact ⟨_, by first | rfl | (simp [errW_none, errW_some] <;> rfl) | (simp [*, errW_none, errW_some] <;> rfl), by first | exact Kd.R_nil _ _ _ _ _ | exact Kd.N_nil _ _ _ _ _ | exact Kd.V_nil _ _ _ _ _ | exact Kd.Q_nil _ _ _ _ _ | exact Kd.S_nil _ _ _ _ _, by repeat (first | (with_reducible first | exact HB.out | apply below_alloc | apply pw_below_drewN | apply below_drew1) | exact HB.out)⟩

end Go.Proofs.YtdgdhmglcpkkiaaDoor.P
