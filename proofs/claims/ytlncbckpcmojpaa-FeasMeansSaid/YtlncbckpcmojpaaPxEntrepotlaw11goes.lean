/- Written by a program of this session, after the kit's print: Lean functions for Go functions, and the proof that the machine comes to their answers. -/
import Derived.Test.YtlncbckpcmojpaaPx0
import Derived.Test.YtlncbckpcmojpaaMka
import Derived.Test.YtlncbckpcmojpaaGBetweenF
namespace Go.Proofs.Ytlncbckpcmojpaa.P
open Go.RowKit Go.Proofs.YtlncbckpcmojpaaW.PrintWords Go.Proofs.YtlncbckpcmojpaaW.PrintLast Go.Proofs.YtlncbckpcmojpaaW.PrintMore
attribute [local go_sem] max2_int min2_int max_two min_two max_three min_three max_four min_four   -- for this text's walks alone
set_option linter.unusedVariables false
set_option linter.unusedSimpArgs false

/-! ### entrepotlaw11_goes: function 26 -/
mutual
def entrepotlaw11_goes.l0 : Nat → List Int → Int → Int → Int → Int → Int → ByteArray → Int → Int → Int → Int → Int → List (S32) → List Int → Option (Bool)
 | 0, _, _, _, _, _, _, _, _, _, _, _, _, _, _ => none
 | k + 1, x1, x5, x6, x7, x8, x9, x626000, x626001, x626002, x626003, x626004, x626005, x626006, x626007 => if x9 < (x1.length : Int) then (if 0 ≤ x9 then (if 0 ≤ (rd x1 x9) then (if (rd x1 x9) < (x626006.length : Int) then ((cost_Between.f k x626000 x626001 x626002 x626003 x626004 x626005 x626006 x626007 x8 (rd x1 x9)).bind fun bt635 => (if (wrap64 (x5 + ((rd_T32 x626006 (rd x1 x9)).f2))) < 0 then (entrepotlaw11_goes.j1 k x1 (wrap64 (x5 + ((rd_T32 x626006 (rd x1 x9)).f2))) x6 (mx (wrap64 (x7 + bt635.1)) (wrap64 (x6 * ((rd_T32 x626006 (rd x1 x9)).f3)))) x9 true x626000 x626001 x626002 x626003 x626004 x626005 x626006 x626007 ((rd_T32 x626006 (rd x1 x9)).f0) ((rd_T32 x626006 (rd x1 x9)).f1) ((rd_T32 x626006 (rd x1 x9)).f2) ((rd_T32 x626006 (rd x1 x9)).f3) ((rd_T32 x626006 (rd x1 x9)).f4) ((rd_T32 x626006 (rd x1 x9)).f5) ((rd_T32 x626006 (rd x1 x9)).f6)) else (if (wrap64 (x5 + ((rd_T32 x626006 (rd x1 x9)).f2))) > x626004 then (entrepotlaw11_goes.j1 k x1 (wrap64 (x5 + ((rd_T32 x626006 (rd x1 x9)).f2))) x6 (mx (wrap64 (x7 + bt635.1)) (wrap64 (x6 * ((rd_T32 x626006 (rd x1 x9)).f3)))) x9 true x626000 x626001 x626002 x626003 x626004 x626005 x626006 x626007 ((rd_T32 x626006 (rd x1 x9)).f0) ((rd_T32 x626006 (rd x1 x9)).f1) ((rd_T32 x626006 (rd x1 x9)).f2) ((rd_T32 x626006 (rd x1 x9)).f3) ((rd_T32 x626006 (rd x1 x9)).f4) ((rd_T32 x626006 (rd x1 x9)).f5) ((rd_T32 x626006 (rd x1 x9)).f6)) else (if x626001 = 2 then (entrepotlaw11_goes.j1 k x1 (wrap64 (x5 + ((rd_T32 x626006 (rd x1 x9)).f2))) x6 (mx (wrap64 (x7 + bt635.1)) (wrap64 (x6 * ((rd_T32 x626006 (rd x1 x9)).f3)))) x9 false x626000 x626001 x626002 x626003 x626004 x626005 x626006 x626007 ((rd_T32 x626006 (rd x1 x9)).f0) ((rd_T32 x626006 (rd x1 x9)).f1) ((rd_T32 x626006 (rd x1 x9)).f2) ((rd_T32 x626006 (rd x1 x9)).f3) ((rd_T32 x626006 (rd x1 x9)).f4) ((rd_T32 x626006 (rd x1 x9)).f5) ((rd_T32 x626006 (rd x1 x9)).f6)) else (entrepotlaw11_goes.j1 k x1 (wrap64 (x5 + ((rd_T32 x626006 (rd x1 x9)).f2))) x6 (mx (wrap64 (x7 + bt635.1)) (wrap64 (x6 * ((rd_T32 x626006 (rd x1 x9)).f3)))) x9 (decide ((mx (wrap64 (x7 + bt635.1)) (wrap64 (x6 * ((rd_T32 x626006 (rd x1 x9)).f3)))) > (wrap64 (x6 * ((rd_T32 x626006 (rd x1 x9)).f4))))) x626000 x626001 x626002 x626003 x626004 x626005 x626006 x626007 ((rd_T32 x626006 (rd x1 x9)).f0) ((rd_T32 x626006 (rd x1 x9)).f1) ((rd_T32 x626006 (rd x1 x9)).f2) ((rd_T32 x626006 (rd x1 x9)).f3) ((rd_T32 x626006 (rd x1 x9)).f4) ((rd_T32 x626006 (rd x1 x9)).f5) ((rd_T32 x626006 (rd x1 x9)).f6)))))) else (none)) else (none)) else (none)) else ((cost_Between.f k x626000 x626001 x626002 x626003 x626004 x626005 x626006 x626007 x8 0).bind fun bt628 => (if x626001 = 2 then (some true) else (if (x1.length : Int) = 0 then (some true) else (if 0 < (x626006.length : Int) then (some (decide ((wrap64 (x7 + bt628.1)) ≤ (wrap64 (x6 * ((rd_T32 x626006 0).f4)))))) else (none)))))
def entrepotlaw11_goes.j1 : Nat → List Int → Int → Int → Int → Int → Bool → ByteArray → Int → Int → Int → Int → Int → List (S32) → List Int → Int → Int → Int → Int → Int → Int → Int → Option (Bool)
 | 0, _, _, _, _, _, _, _, _, _, _, _, _, _, _, _, _, _, _, _, _, _ => none
 | k + 1, x1, x5, x6, x7, x9, x84, x626000, x626001, x626002, x626003, x626004, x626005, x626006, x626007, x634000, x634001, x634002, x634003, x634004, x634005, x634006 => if x84 = true then (some false) else (if 0 ≤ x9 then (if x9 < (x1.length : Int) then (entrepotlaw11_goes.l1 k x1 x5 x6 (wrap64 (x7 + (wrap64 (x6 * x634005)))) (rd x1 x9) x9 false 0 x626000 x626001 x626002 x626003 x626004 x626005 x626006 x626007 x634000 x634001 x634002 x634003 x634004 x634005 x634006) else (none)) else (none))
def entrepotlaw11_goes.l1 : Nat → List Int → Int → Int → Int → Int → Int → Bool → Int → ByteArray → Int → Int → Int → Int → Int → List (S32) → List Int → Int → Int → Int → Int → Int → Int → Int → Option (Bool)
 | 0, _, _, _, _, _, _, _, _, _, _, _, _, _, _, _, _, _, _, _, _, _, _, _ => none
 | k + 1, x1, x5, x6, x7, x8, x9, x13, x14, x626000, x626001, x626002, x626003, x626004, x626005, x626006, x626007, x634000, x634001, x634002, x634003, x634004, x634005, x634006 => if x14 < x9 then (if x13 = true then (entrepotlaw11_goes.l1 k x1 x5 x6 x7 x8 x9 true (wrap64 (x14 + 1)) x626000 x626001 x626002 x626003 x626004 x626005 x626006 x626007 x634000 x634001 x634002 x634003 x634004 x634005 x634006) else (if 0 ≤ x14 then (if x14 < (x1.length : Int) then (entrepotlaw11_goes.l1 k x1 x5 x6 x7 x8 x9 ((rd x1 x14) == x634006) (wrap64 (x14 + 1)) x626000 x626001 x626002 x626003 x626004 x626005 x626006 x626007 x634000 x634001 x634002 x634003 x634004 x634005 x634006) else (none)) else (none))) else (entrepotlaw11_goes.l2 k x1 x5 x6 x7 x8 x9 x13 false (wrap64 (x9 + 1)) x626000 x626001 x626002 x626003 x626004 x626005 x626006 x626007 x634000 x634001 x634002 x634003 x634004 x634005 x634006)
def entrepotlaw11_goes.l2 : Nat → List Int → Int → Int → Int → Int → Int → Bool → Bool → Int → ByteArray → Int → Int → Int → Int → Int → List (S32) → List Int → Int → Int → Int → Int → Int → Int → Int → Option (Bool)
 | 0, _, _, _, _, _, _, _, _, _, _, _, _, _, _, _, _, _, _, _, _, _, _, _, _ => none
 | k + 1, x1, x5, x6, x7, x8, x9, x13, x15, x16, x626000, x626001, x626002, x626003, x626004, x626005, x626006, x626007, x634000, x634001, x634002, x634003, x634004, x634005, x634006 => if x16 < (x1.length : Int) then (if x15 = true then (entrepotlaw11_goes.l2 k x1 x5 x6 x7 x8 x9 x13 true (wrap64 (x16 + 1)) x626000 x626001 x626002 x626003 x626004 x626005 x626006 x626007 x634000 x634001 x634002 x634003 x634004 x634005 x634006) else (if 0 ≤ x16 then (entrepotlaw11_goes.l2 k x1 x5 x6 x7 x8 x9 x13 ((rd x1 x16) == x634006) (wrap64 (x16 + 1)) x626000 x626001 x626002 x626003 x626004 x626005 x626006 x626007 x634000 x634001 x634002 x634003 x634004 x634005 x634006) else (none))) else (if x626001 = 4 then (if x634002 > 0 then (if x15 = true then (if x634002 < 0 then (if x13 = true then (entrepotlaw11_goes.l0 k x1 x5 x6 x7 x8 (wrap64 (x9 + 1)) x626000 x626001 x626002 x626003 x626004 x626005 x626006 x626007) else (some false)) else (entrepotlaw11_goes.l0 k x1 x5 x6 x7 x8 (wrap64 (x9 + 1)) x626000 x626001 x626002 x626003 x626004 x626005 x626006 x626007)) else (some false)) else (if x634002 < 0 then (if x13 = true then (entrepotlaw11_goes.l0 k x1 x5 x6 x7 x8 (wrap64 (x9 + 1)) x626000 x626001 x626002 x626003 x626004 x626005 x626006 x626007) else (some false)) else (entrepotlaw11_goes.l0 k x1 x5 x6 x7 x8 (wrap64 (x9 + 1)) x626000 x626001 x626002 x626003 x626004 x626005 x626006 x626007))) else (entrepotlaw11_goes.l0 k x1 x5 x6 x7 x8 (wrap64 (x9 + 1)) x626000 x626001 x626002 x626003 x626004 x626005 x626006 x626007))
end
def entrepotlaw11_goes.f (k : Nat) (a0_0 : ByteArray) (a0_1 : Int) (a0_2 : Int) (a0_3 : Int) (a0_4 : Int) (a0_5 : Int) (l0_6 : List (S32)) (l0_7 : List Int) (l1 : List Int) : Option (Bool) := (cost_Unit.f a0_0 a0_1 a0_2 a0_3 a0_4 a0_5 l0_6 l0_7).bind fun t626 => (if 0 < (l0_6.length : Int) then (entrepotlaw11_goes.l0 k l1 0 t626 (wrap64 (t626 * ((rd_T32 l0_6 0).f3))) 0 0 a0_0 a0_1 a0_2 a0_3 a0_4 a0_5 l0_6 l0_7) else (none))
theorem entrepotlaw11_goes.mono_l : ∀ k, (∀ y0 y1 y2 y3 y4 y5 y6 y7 y8 y9 y10 y11 y12 y13, LeO (entrepotlaw11_goes.l0 k y0 y1 y2 y3 y4 y5 y6 y7 y8 y9 y10 y11 y12 y13) (entrepotlaw11_goes.l0 (k + 1) y0 y1 y2 y3 y4 y5 y6 y7 y8 y9 y10 y11 y12 y13)) ∧ (∀ y0 y1 y2 y3 y4 y5 y6 y7 y8 y9 y10 y11 y12 y13 y14 y15 y16 y17 y18 y19 y20, LeO (entrepotlaw11_goes.j1 k y0 y1 y2 y3 y4 y5 y6 y7 y8 y9 y10 y11 y12 y13 y14 y15 y16 y17 y18 y19 y20) (entrepotlaw11_goes.j1 (k + 1) y0 y1 y2 y3 y4 y5 y6 y7 y8 y9 y10 y11 y12 y13 y14 y15 y16 y17 y18 y19 y20)) ∧ (∀ y0 y1 y2 y3 y4 y5 y6 y7 y8 y9 y10 y11 y12 y13 y14 y15 y16 y17 y18 y19 y20 y21 y22, LeO (entrepotlaw11_goes.l1 k y0 y1 y2 y3 y4 y5 y6 y7 y8 y9 y10 y11 y12 y13 y14 y15 y16 y17 y18 y19 y20 y21 y22) (entrepotlaw11_goes.l1 (k + 1) y0 y1 y2 y3 y4 y5 y6 y7 y8 y9 y10 y11 y12 y13 y14 y15 y16 y17 y18 y19 y20 y21 y22)) ∧ (∀ y0 y1 y2 y3 y4 y5 y6 y7 y8 y9 y10 y11 y12 y13 y14 y15 y16 y17 y18 y19 y20 y21 y22 y23, LeO (entrepotlaw11_goes.l2 k y0 y1 y2 y3 y4 y5 y6 y7 y8 y9 y10 y11 y12 y13 y14 y15 y16 y17 y18 y19 y20 y21 y22 y23) (entrepotlaw11_goes.l2 (k + 1) y0 y1 y2 y3 y4 y5 y6 y7 y8 y9 y10 y11 y12 y13 y14 y15 y16 y17 y18 y19 y20 y21 y22 y23))
 | 0 => ⟨fun _ _ _ _ _ _ _ _ _ _ _ _ _ _ r h => by simp [entrepotlaw11_goes.l0] at h, fun _ _ _ _ _ _ _ _ _ _ _ _ _ _ _ _ _ _ _ _ _ r h => by simp [entrepotlaw11_goes.j1] at h, fun _ _ _ _ _ _ _ _ _ _ _ _ _ _ _ _ _ _ _ _ _ _ _ r h => by simp [entrepotlaw11_goes.l1] at h, fun _ _ _ _ _ _ _ _ _ _ _ _ _ _ _ _ _ _ _ _ _ _ _ _ r h => by simp [entrepotlaw11_goes.l2] at h⟩
 | k + 1 => by
  obtain ⟨ih0, ih1, ih2, ih3⟩ := entrepotlaw11_goes.mono_l k
  refine ⟨?_, ?_, ?_, ?_⟩ <;> intros
  all_goals first | unfold entrepotlaw11_goes.l0 | unfold entrepotlaw11_goes.j1 | unfold entrepotlaw11_goes.l1 | unfold entrepotlaw11_goes.l2
  all_goals repeat' first
  | (with_reducible exact ih0 _ _ _ _ _ _ _ _ _ _ _ _ _ _)
  | (with_reducible exact ih1 _ _ _ _ _ _ _ _ _ _ _ _ _ _ _ _ _ _ _ _ _)
  | (with_reducible exact ih2 _ _ _ _ _ _ _ _ _ _ _ _ _ _ _ _ _ _ _ _ _ _ _)
  | (with_reducible exact ih3 _ _ _ _ _ _ _ _ _ _ _ _ _ _ _ _ _ _ _ _ _ _ _ _)
  | (with_reducible exact cost_Between.mono _ _ _ _ _ _ _ _ _ _ _)
  | (with_reducible exact LeO.refl _)
  | (with_reducible exact LeO.none _)
  | (with_reducible refine LeO.ite ?_ ?_)
  | (with_reducible refine LeO.bind ?_ (fun _ => ?_))
  | exact ih0 _ _ _ _ _ _ _ _ _ _ _ _ _ _
  | exact ih1 _ _ _ _ _ _ _ _ _ _ _ _ _ _ _ _ _ _ _ _ _
  | exact ih2 _ _ _ _ _ _ _ _ _ _ _ _ _ _ _ _ _ _ _ _ _ _ _
  | exact ih3 _ _ _ _ _ _ _ _ _ _ _ _ _ _ _ _ _ _ _ _ _ _ _ _
  | exact cost_Between.mono _ _ _ _ _ _ _ _ _ _ _
  | exact LeO.none _
  | refine LeO.ite ?_ ?_
  | refine LeO.bind ?_ (fun _ => ?_)
theorem entrepotlaw11_goes.mono : ∀ a0 a1 a2 a3 a4 a5 a6 a7 a8 k, LeO (entrepotlaw11_goes.f k a0 a1 a2 a3 a4 a5 a6 a7 a8) (entrepotlaw11_goes.f (k + 1) a0 a1 a2 a3 a4 a5 a6 a7 a8) := by
 intro a0 a1 a2 a3 a4 a5 a6 a7 a8 k
 obtain ⟨ih0, ih1, ih2, ih3⟩ := entrepotlaw11_goes.mono_l k
 unfold entrepotlaw11_goes.f
 repeat' first
   | (with_reducible exact ih0 _ _ _ _ _ _ _ _ _ _ _ _ _ _)
   | (with_reducible exact ih1 _ _ _ _ _ _ _ _ _ _ _ _ _ _ _ _ _ _ _ _ _)
   | (with_reducible exact ih2 _ _ _ _ _ _ _ _ _ _ _ _ _ _ _ _ _ _ _ _ _ _ _)
   | (with_reducible exact ih3 _ _ _ _ _ _ _ _ _ _ _ _ _ _ _ _ _ _ _ _ _ _ _ _)
   | (with_reducible exact cost_Between.mono _ _ _ _ _ _ _ _ _ _ _)
   | (with_reducible exact LeO.refl _)
   | (with_reducible exact LeO.none _)
   | (with_reducible refine LeO.ite ?_ ?_)
   | (with_reducible refine LeO.bind ?_ (fun _ => ?_))
   | exact ih0 _ _ _ _ _ _ _ _ _ _ _ _ _ _
   | exact ih1 _ _ _ _ _ _ _ _ _ _ _ _ _ _ _ _ _ _ _ _ _
   | exact ih2 _ _ _ _ _ _ _ _ _ _ _ _ _ _ _ _ _ _ _ _ _ _ _
   | exact ih3 _ _ _ _ _ _ _ _ _ _ _ _ _ _ _ _ _ _ _ _ _ _ _ _
   | exact cost_Between.mono _ _ _ _ _ _ _ _ _ _ _
   | exact LeO.none _
   | refine LeO.ite ?_ ?_
   | refine LeO.bind ?_ (fun _ => ?_)
def entrepotlaw11_goes.T8 : Bool × List (List Nat × List Nat) := (true, [([], []), ([0], [0]), ([], []), ([], []), ([2, 3], [2, 3]), ([4], [4]), ([1, 5], [1, 5]), ([6], [6]), ([], []), ([8, 7, 0, 1, 2, 3, 4, 5, 6, 7, 8], [7, 8])])
def entrepotlaw11_goes.B8 : List Nat := [0, 1, 0, 0, 12, 28, 63, 127, 0, 511]
theorem entrepotlaw11_goes.tab8 : rtab .any (opsOf Try.f26 8) = entrepotlaw11_goes.T8 := by kernel_rfl
theorem entrepotlaw11_goes.bits8 : waitsOk entrepotlaw11_goes.T8.2 entrepotlaw11_goes.B8 = true := by kernel_rfl
def entrepotlaw11_goes.T10 : Bool × List (List Nat × List Nat) := (true, [([], []), ([], []), ([], []), ([], []), ([2, 3], [2, 3]), ([4], [4]), ([0, 1, 5], [0, 1, 5]), ([6], [6]), ([7], [7]), ([7], [7]), ([8, 6, 0, 1, 2, 3, 4, 5, 6, 7, 8], [8]), ([9, 10, 0, 1, 2, 3, 4, 5, 6, 7, 8, 9, 10], [9])])
def entrepotlaw11_goes.B10 : List Nat := [0, 0, 0, 0, 12, 28, 63, 127, 255, 255, 511, 2047]
theorem entrepotlaw11_goes.tab10 : rtab .any (opsOf Try.f26 10) = entrepotlaw11_goes.T10 := by kernel_rfl
theorem entrepotlaw11_goes.bits10 : waitsOk entrepotlaw11_goes.T10.2 entrepotlaw11_goes.B10 = true := by kernel_rfl
def entrepotlaw11_goes.T20 : Bool × List (List Nat × List Nat) := (true, [([], []), ([0], [0]), ([1], [1]), ([1], [1]), ([2, 3, 1], [1, 2, 3]), ([4, 1], [1, 4]), ([1], [1]), ([6, 1], [1, 6]), ([5, 7, 1], [1, 5, 7]), ([1, 8], [1, 8]), ([9, 1, 0, 1, 2, 3, 4, 5, 6, 7, 8, 9], [0, 9])])
def entrepotlaw11_goes.B20 : List Nat := [0, 1, 3, 3, 15, 31, 3, 67, 255, 511, 1023]
theorem entrepotlaw11_goes.tab20 : rtab .any (opsOf Try.f26 20) = entrepotlaw11_goes.T20 := by kernel_rfl
theorem entrepotlaw11_goes.bits20 : waitsOk entrepotlaw11_goes.T20.2 entrepotlaw11_goes.B20 = true := by kernel_rfl
def entrepotlaw11_goes.T25 : Bool × List (List Nat × List Nat) := (true, [([], []), ([0], [0]), ([1], [1]), ([1], [1]), ([2, 3, 1], [1, 2, 3]), ([4, 1], [1, 4]), ([1], [1]), ([6, 1], [1, 6]), ([5, 7, 1], [1, 5, 7]), ([1, 8], [1, 8]), ([9, 1, 0, 1, 2, 3, 4, 5, 6, 7, 8, 9], [0, 9])])
def entrepotlaw11_goes.B25 : List Nat := [0, 1, 3, 3, 15, 31, 3, 67, 255, 511, 1023]
theorem entrepotlaw11_goes.tab25 : rtab .any (opsOf Try.f26 25) = entrepotlaw11_goes.T25 := by kernel_rfl
theorem entrepotlaw11_goes.bits25 : waitsOk entrepotlaw11_goes.T25.2 entrepotlaw11_goes.B25 = true := by kernel_rfl
set_option maxHeartbeats 60000000 in
set_option maxRecDepth 100000 in
theorem entrepotlaw11_goes.calls (k : Nat) (a0_0 : ByteArray) (a0_1 : Int) (a0_2 : Int) (a0_3 : Int) (a0_4 : Int) (a0_5 : Int) (A0_6 : Option Addr) (c0_6 : Nat) (l0_6 : List (S32)) (A0_7 : Option Addr) (c0_7 : Nat) (l0_7 : List Int) (A1 : Option Addr) (c1 : Nat) (l1 : List Int) (r : Bool) (w : World) (hr0_6 : Kd.C k32 w A0_6 l0_6.length l0_6) (hc0_6 : l0_6.length ≤ c0_6) (hr0_7 : Kd.C (Kd.int .i64) w A0_7 l0_7.length l0_7) (hc0_7 : l0_7.length ≤ c0_7) (hr1 : Kd.C (Kd.int .i64) w A1 l1.length l1) (hc1 : l1.length ≤ c1) (h : entrepotlaw11_goes.f k a0_0 a0_1 a0_2 a0_3 a0_4 a0_5 l0_6 l0_7 l1 = some r) :
  Calls Try.prog 26 #[.agg #[.string a0_0, .int .i64 a0_1, .int .i64 a0_2, .int .i64 a0_3, .int .i64 a0_4, .int .i64 a0_5, .slice A0_6 l0_6.length c0_6, .slice A0_7 l0_7.length c0_7], .slice A1 l1.length c1] w fun e w' => e = .returned (.bool r) ∧ Below w.heap.size w w' := by
 have hu25 := Try.underlying25
 have hu32 := Try.underlying32
 have HR0_6 := Aside0.mk hr0_6
 have HC0_6 := Aside0.mk hc0_6
 clear hr0_6 hc0_6
 have HR0_7 := Aside0.mk hr0_7
 have HC0_7 := Aside0.mk hc0_7
 clear hr0_7 hc0_7
 have HR1 := Aside0.mk hr1
 have HC1 := Aside0.mk hc1
 clear hr1 hc1
 have HB := Aside0.mk (Below.refl w.heap.size w)
 have H : ((cost_Unit.f a0_0 a0_1 a0_2 a0_3 a0_4 a0_5 l0_6 l0_7).bind fun t626 => (if 0 < (l0_6.length : Int) then (entrepotlaw11_goes.l0 k l1 0 t626 (wrap64 (t626 * ((rd_T32 l0_6 0).f3))) 0 0 a0_0 a0_1 a0_2 a0_3 a0_4 a0_5 l0_6 l0_7) else (none))) = some r := h
 clear h
 replace H := Option.bind_eq_some_iff.mp H
 obtain ⟨t626, A30, H⟩ := H
 replace H : (if 0 < (l0_6.length : Int) then (entrepotlaw11_goes.l0 k l1 0 t626 (wrap64 (t626 * ((rd_T32 l0_6 0).f3))) 0 0 a0_0 a0_1 a0_2 a0_3 a0_4 a0_5 l0_6 l0_7) else (none)) = some r := H
 have A3 := Aside0.mk A30
 clear A30
 by_cases c4 : 0 < (l0_6.length : Int)
 ·rw [if_pos c4] at H
  have c4b0 : decide (0 < (l0_6.length : Int)) = true := decide_eq_true c4
  have c4b1 : decide (0 < l0_6.length) = true := decide_eq_true (by omega)
  clear c4
  have H' := Aside0.mk H
  clear H
  go_enter Try.func26, Try.ntmps26
  go_wp2_with (first | ((with_reducible refine gate_dst (N := 2) rfl ?_); (try (refine gate_guard (by rfl) ?_; dsimp only)); refine box_event ?hg (N := 2) ?hd (cs := #[.string a0_0, .int .i64 a0_1, .int .i64 a0_2, .int .i64 a0_3, .int .i64 a0_4, .int .i64 a0_5, .slice A0_6 l0_6.length c0_6, .slice A0_7 l0_7.length c0_7]) (t := 25) ?hr ?_; (case hd => rfl); (case hg => rfl); (case hr => first | (go_simp; done) | (go_simp; rfl)); intro gb625 hg w5 hbox hb; have n0_ := Aside0.mk (below_step (by repeat (first | (with_reducible first | exact HB.out | apply below_alloc | apply pw_below_drewN | apply below_drew1) | exact HB.out)) hb); have n1_ := Aside0.mk (hbox); have n2_ := Aside0.mk ((by rw [hg]; exact (below_size (by repeat (first | (with_reducible first | exact HB.out | apply below_alloc | apply pw_below_drewN | apply below_drew1) | exact HB.out))) : w.heap.size ≤ gb625)); have n3_ := Aside0.mk ((by rw [hg]; exact (below_size (by repeat (first | (with_reducible first | exact HB.out | apply below_alloc | apply pw_below_drewN | apply below_drew1) | exact HB.out))) : w.heap.size ≤ gb625)); clear HB; have HB := n0_; have BK625 := n1_; have GW625 := n2_; have GE625 := n3_; clear n0_ n1_ n2_ n3_; clear hb hbox hg; obtain ⟨hcz6_0, hcz6_1, hcz6_2, hcz6_3, hcz6_4, hcz6_5, hcz6_6, hcz6_7, hfz6_0, hfz6_1, hfz6_2, hfz6_3, hfz6_4, hfz6_5, hfz6_6, hfz6_7⟩ := blk8_ BK625.out) | ((with_reducible refine gate_callee (f := 46) rfl ?_); refine goesL_ (some 20) rfl rfl Try.func46 (by kernel_rfl) rfl #[.agg #[.string a0_0, .int .i64 a0_1, .int .i64 a0_2, .int .i64 a0_3, .int .i64 a0_4, .int .i64 a0_5, .slice A0_6 l0_6.length c0_6, .slice A0_7 l0_7.length c0_7]] rfl (by (try simp only [List.map_toArray, List.map_cons, List.map_nil]); first | done | rfl | (simp only [List.length_drop, List.length_take]; rfl)) ?_; (with_reducible refine (cost_Unit.calls a0_0 a0_1 a0_2 a0_3 a0_4 a0_5 _ _ l0_6 _ _ l0_7 t626 _ ?side1 ?side2 ?side3 ?side4 A3.out).mono ?_); (case side1 => repeat (first | exact (Kd.C_below HR0_6.out HB.out) | (with_reducible refine Kd.C_alloc ?_ _) | (with_reducible refine Kd.C_drewN ?_ _) | (with_reducible refine Kd.C_drew ?_))); (case side2 => exact HC0_6.out); (case side3 => repeat (first | exact (Kd.C_below HR0_7.out HB.out) | (with_reducible refine Kd.C_alloc ?_ _) | (with_reducible refine Kd.C_drewN ?_ _) | (with_reducible refine Kd.C_drew ?_))); (case side4 => exact HC0_7.out); rintro e w7 ⟨rfl, hb⟩; refine ⟨_, rfl, ?_⟩; have n0_ := Aside0.mk (blk_below (g := gb625) (o := .cells #[.string a0_0, .int .i64 a0_1, .int .i64 a0_2, .int .i64 a0_3, .int .i64 a0_4, .int .i64 a0_5, .slice A0_6 l0_6.length c0_6, .slice A0_7 l0_7.length c0_7] 25 (0, 0)) (by (with_reducible repeat (first | refine blk_drewN ?_ _ | refine blk_drew ?_ | refine blk_alloc ?_ _)); exact BK625.out) hb); have n1_ := Aside0.mk (below_step (by repeat (first | (with_reducible first | exact HB.out | apply below_alloc | apply pw_below_drewN | apply below_drew1 | refine below_set ?_ GE625.out) | exact HB.out)) hb); clear BK625; clear HB; have BK625 := n0_; have HB := n1_; clear n0_ n1_; (try clear hb); (try clear hb2); (try clear hk); (try clear hi); obtain ⟨hcz8_0, hcz8_1, hcz8_2, hcz8_3, hcz8_4, hcz8_5, hcz8_6, hcz8_7, hfz8_0, hfz8_1, hfz8_2, hfz8_3, hfz8_4, hfz8_5, hfz8_6, hfz8_7⟩ := blk8_ BK625.out; have p627 : 0 ≤ (0 : Int) := (by omega); have q627 : 0 < (l0_6.length : Int) := of_decide_eq_true (by first | (with_reducible assumption) | assumption); obtain ⟨ad627, e627, hx627_0, hx627_1, hx627_2, hx627_3, hx627_4, hx627_5, hx627_6⟩ := at_T32 HR0_6.out 0 p627 q627; cases e627; have qi627 : (0 < l0_6.length) = True := eq_true (by omega); (try rw [show ((0 : Int)).toNat = 0 from rfl] at hx627_0); (try rw [show 0 * 7 = 0 from rfl] at hx627_0); (try rw [Addr.add_zero'] at hx627_0); (try rw [show ((0 : Int)).toNat = 0 from rfl] at hx627_1); (try rw [show 0 * 7 = 0 from rfl] at hx627_1); (try rw [Addr.add_zero'] at hx627_1); (try rw [show ((0 : Int)).toNat = 0 from rfl] at hx627_2); (try rw [show 0 * 7 = 0 from rfl] at hx627_2); (try rw [Addr.add_zero'] at hx627_2); (try rw [show ((0 : Int)).toNat = 0 from rfl] at hx627_3); (try rw [show 0 * 7 = 0 from rfl] at hx627_3); (try rw [Addr.add_zero'] at hx627_3); (try rw [show ((0 : Int)).toNat = 0 from rfl] at hx627_4); (try rw [show 0 * 7 = 0 from rfl] at hx627_4); (try rw [Addr.add_zero'] at hx627_4); (try rw [show ((0 : Int)).toNat = 0 from rfl] at hx627_5); (try rw [show 0 * 7 = 0 from rfl] at hx627_5); (try rw [Addr.add_zero'] at hx627_5); (try rw [show ((0 : Int)).toNat = 0 from rfl] at hx627_6); (try rw [show 0 * 7 = 0 from rfl] at hx627_6); (try rw [Addr.add_zero'] at hx627_6); replace hx627_0 := (HB.out.cell (World.block_lt_of_cell? w _ hx627_0)).trans hx627_0; replace hx627_1 := (HB.out.cell (World.block_lt_of_cell? w _ hx627_1)).trans hx627_1; replace hx627_2 := (HB.out.cell (World.block_lt_of_cell? w _ hx627_2)).trans hx627_2; replace hx627_3 := (HB.out.cell (World.block_lt_of_cell? w _ hx627_3)).trans hx627_3; replace hx627_4 := (HB.out.cell (World.block_lt_of_cell? w _ hx627_4)).trans hx627_4; replace hx627_5 := (HB.out.cell (World.block_lt_of_cell? w _ hx627_5)).trans hx627_5; replace hx627_6 := (HB.out.cell (World.block_lt_of_cell? w _ hx627_6)).trans hx627_6; replace p627 := eq_true p627; replace q627 := eq_true q627))
  go_loopg [5, 7, 8, 9] k (fun kq v5 v7 v8 v9 w' => ∃ (x5_1 : Int) (x7_1 : Int) (x8_1 : Int) (x9_1 : Int), v5 = .int .i64 x5_1 ∧ v7 = .int .i64 x7_1 ∧ v8 = .int .i64 x8_1 ∧ v9 = .int .i64 x9_1 ∧ Aside0 (entrepotlaw11_goes.l0 kq l1 x5_1 t626 x7_1 x8_1 x9_1 a0_0 a0_1 a0_2 a0_3 a0_4 a0_5 l0_6 l0_7 = some r) ∧ Aside0 (kq ≤ k) ∧ Aside0 (w'.heap[gb625]? = some (.cells #[.string a0_0, .int .i64 a0_1, .int .i64 a0_2, .int .i64 a0_3, .int .i64 a0_4, .int .i64 a0_5, (.slice (some ad627) l0_6.length c0_6), (.slice A0_7 l0_7.length c0_7)] 25 (0, 0))) ∧ Aside0 (Below w.heap.size w w'))
  case atStart => exact ⟨(0), (wrap64 (t626 * ((rd_T32 l0_6 0).f3))), (0), (0), (by first | rfl | (simp; done) | (simp [*]; done)), (by first | rfl | (simp; done) | (simp [*]; done)), (by first | rfl | (simp; done) | (simp [*]; done)), (by first | rfl | (simp; done) | (simp [*]; done)), H', ⟨Nat.le_refl _⟩, ⟨by (with_reducible repeat (first | refine blk_drewN ?_ _ | refine blk_drew ?_ | refine blk_alloc ?_ _)); exact BK625.out⟩, ⟨by repeat (first | (with_reducible first | exact HB.out | apply below_alloc | apply pw_below_drewN | apply below_drew1 | refine below_set ?_ GE625.out) | exact HB.out)⟩⟩
  case round =>
   clear H'
   (try clear c1); (try clear c4); (try clear c4b0); (try clear c4b1); (try clear hcz6_0); (try clear hcz6_1); (try clear hcz6_2); (try clear hcz6_3); (try clear hcz6_4); (try clear hcz6_5); (try clear hcz6_6); (try clear hcz6_7); (try clear hcz8_0); (try clear hcz8_1); (try clear hcz8_2); (try clear hcz8_3); (try clear hcz8_4); (try clear hcz8_5); (try clear hcz8_6); (try clear hcz8_7); (try clear hfz6_0); (try clear hfz6_1); (try clear hfz6_2); (try clear hfz6_3); (try clear hfz6_4); (try clear hfz6_5); (try clear hfz6_6); (try clear hfz6_7); (try clear hfz8_0); (try clear hfz8_1); (try clear hfz8_2); (try clear hfz8_3); (try clear hfz8_4); (try clear hfz8_5); (try clear hfz8_6); (try clear hfz8_7); (try clear hx627_0); (try clear hx627_1); (try clear hx627_2); (try clear hx627_3); (try clear hx627_4); (try clear hx627_5); (try clear hx627_6); (try clear p627); (try clear q627)
   obtain ⟨x5_1, x7_1, x8_1, x9_1, rfl, rfl, rfl, rfl, HA, HK1, BK625, HB⟩ := hrel
   cases gk with
   | zero => exact absurd HA.out (by simp [entrepotlaw11_goes.l0])
   | succ k1 =>
    have H := HA.out
    clear HA
    simp only [entrepotlaw11_goes.l0] at H
    by_cases c9 : x9_1 < (l1.length : Int)
    ·rw [if_pos c9] at H
     have c9b0 : decide (x9_1 < (l1.length : Int)) = true := decide_eq_true c9
     clear c9
     by_cases c10 : 0 ≤ x9_1
     ·rw [if_pos c10] at H
      have c10b0 : decide (0 ≤ x9_1) = true := decide_eq_true c10
      clear c10
      by_cases c11 : 0 ≤ (rd l1 x9_1)
      ·rw [if_pos c11] at H
       have c11b0 : decide (0 ≤ (rd l1 x9_1)) = true := decide_eq_true c11
       clear c11
       by_cases c12 : (rd l1 x9_1) < (l0_6.length : Int)
       ·rw [if_pos c12] at H
        have c12b0 : decide ((rd l1 x9_1) < (l0_6.length : Int)) = true := decide_eq_true c12
        clear c12
        replace H := Option.bind_eq_some_iff.mp H
        obtain ⟨⟨t635, t636⟩, A130, H⟩ := H
        replace H : (if (wrap64 (x5_1 + ((rd_T32 l0_6 (rd l1 x9_1)).f2))) < 0 then (entrepotlaw11_goes.j1 k1 l1 (wrap64 (x5_1 + ((rd_T32 l0_6 (rd l1 x9_1)).f2))) t626 (mx (wrap64 (x7_1 + t635)) (wrap64 (t626 * ((rd_T32 l0_6 (rd l1 x9_1)).f3)))) x9_1 true a0_0 a0_1 a0_2 a0_3 a0_4 a0_5 l0_6 l0_7 ((rd_T32 l0_6 (rd l1 x9_1)).f0) ((rd_T32 l0_6 (rd l1 x9_1)).f1) ((rd_T32 l0_6 (rd l1 x9_1)).f2) ((rd_T32 l0_6 (rd l1 x9_1)).f3) ((rd_T32 l0_6 (rd l1 x9_1)).f4) ((rd_T32 l0_6 (rd l1 x9_1)).f5) ((rd_T32 l0_6 (rd l1 x9_1)).f6)) else (if (wrap64 (x5_1 + ((rd_T32 l0_6 (rd l1 x9_1)).f2))) > a0_4 then (entrepotlaw11_goes.j1 k1 l1 (wrap64 (x5_1 + ((rd_T32 l0_6 (rd l1 x9_1)).f2))) t626 (mx (wrap64 (x7_1 + t635)) (wrap64 (t626 * ((rd_T32 l0_6 (rd l1 x9_1)).f3)))) x9_1 true a0_0 a0_1 a0_2 a0_3 a0_4 a0_5 l0_6 l0_7 ((rd_T32 l0_6 (rd l1 x9_1)).f0) ((rd_T32 l0_6 (rd l1 x9_1)).f1) ((rd_T32 l0_6 (rd l1 x9_1)).f2) ((rd_T32 l0_6 (rd l1 x9_1)).f3) ((rd_T32 l0_6 (rd l1 x9_1)).f4) ((rd_T32 l0_6 (rd l1 x9_1)).f5) ((rd_T32 l0_6 (rd l1 x9_1)).f6)) else (if a0_1 = 2 then (entrepotlaw11_goes.j1 k1 l1 (wrap64 (x5_1 + ((rd_T32 l0_6 (rd l1 x9_1)).f2))) t626 (mx (wrap64 (x7_1 + t635)) (wrap64 (t626 * ((rd_T32 l0_6 (rd l1 x9_1)).f3)))) x9_1 false a0_0 a0_1 a0_2 a0_3 a0_4 a0_5 l0_6 l0_7 ((rd_T32 l0_6 (rd l1 x9_1)).f0) ((rd_T32 l0_6 (rd l1 x9_1)).f1) ((rd_T32 l0_6 (rd l1 x9_1)).f2) ((rd_T32 l0_6 (rd l1 x9_1)).f3) ((rd_T32 l0_6 (rd l1 x9_1)).f4) ((rd_T32 l0_6 (rd l1 x9_1)).f5) ((rd_T32 l0_6 (rd l1 x9_1)).f6)) else (entrepotlaw11_goes.j1 k1 l1 (wrap64 (x5_1 + ((rd_T32 l0_6 (rd l1 x9_1)).f2))) t626 (mx (wrap64 (x7_1 + t635)) (wrap64 (t626 * ((rd_T32 l0_6 (rd l1 x9_1)).f3)))) x9_1 (decide ((mx (wrap64 (x7_1 + t635)) (wrap64 (t626 * ((rd_T32 l0_6 (rd l1 x9_1)).f3)))) > (wrap64 (t626 * ((rd_T32 l0_6 (rd l1 x9_1)).f4))))) a0_0 a0_1 a0_2 a0_3 a0_4 a0_5 l0_6 l0_7 ((rd_T32 l0_6 (rd l1 x9_1)).f0) ((rd_T32 l0_6 (rd l1 x9_1)).f1) ((rd_T32 l0_6 (rd l1 x9_1)).f2) ((rd_T32 l0_6 (rd l1 x9_1)).f3) ((rd_T32 l0_6 (rd l1 x9_1)).f4) ((rd_T32 l0_6 (rd l1 x9_1)).f5) ((rd_T32 l0_6 (rd l1 x9_1)).f6))))) = some r := H
        have A13 := Aside0.mk A130
        clear A130
        obtain ⟨ji14, hji14⟩ : ∃ j_ : Int, (mx (wrap64 (x7_1 + t635)) (wrap64 (t626 * ((rd_T32 l0_6 (rd l1 x9_1)).f3)))) = j_ := ⟨_, rfl⟩
        replace H : (if (wrap64 (x5_1 + ((rd_T32 l0_6 (rd l1 x9_1)).f2))) < 0 then (entrepotlaw11_goes.j1 k1 l1 (wrap64 (x5_1 + ((rd_T32 l0_6 (rd l1 x9_1)).f2))) t626 ji14 x9_1 true a0_0 a0_1 a0_2 a0_3 a0_4 a0_5 l0_6 l0_7 ((rd_T32 l0_6 (rd l1 x9_1)).f0) ((rd_T32 l0_6 (rd l1 x9_1)).f1) ((rd_T32 l0_6 (rd l1 x9_1)).f2) ((rd_T32 l0_6 (rd l1 x9_1)).f3) ((rd_T32 l0_6 (rd l1 x9_1)).f4) ((rd_T32 l0_6 (rd l1 x9_1)).f5) ((rd_T32 l0_6 (rd l1 x9_1)).f6)) else (if (wrap64 (x5_1 + ((rd_T32 l0_6 (rd l1 x9_1)).f2))) > a0_4 then (entrepotlaw11_goes.j1 k1 l1 (wrap64 (x5_1 + ((rd_T32 l0_6 (rd l1 x9_1)).f2))) t626 ji14 x9_1 true a0_0 a0_1 a0_2 a0_3 a0_4 a0_5 l0_6 l0_7 ((rd_T32 l0_6 (rd l1 x9_1)).f0) ((rd_T32 l0_6 (rd l1 x9_1)).f1) ((rd_T32 l0_6 (rd l1 x9_1)).f2) ((rd_T32 l0_6 (rd l1 x9_1)).f3) ((rd_T32 l0_6 (rd l1 x9_1)).f4) ((rd_T32 l0_6 (rd l1 x9_1)).f5) ((rd_T32 l0_6 (rd l1 x9_1)).f6)) else (if a0_1 = 2 then (entrepotlaw11_goes.j1 k1 l1 (wrap64 (x5_1 + ((rd_T32 l0_6 (rd l1 x9_1)).f2))) t626 ji14 x9_1 false a0_0 a0_1 a0_2 a0_3 a0_4 a0_5 l0_6 l0_7 ((rd_T32 l0_6 (rd l1 x9_1)).f0) ((rd_T32 l0_6 (rd l1 x9_1)).f1) ((rd_T32 l0_6 (rd l1 x9_1)).f2) ((rd_T32 l0_6 (rd l1 x9_1)).f3) ((rd_T32 l0_6 (rd l1 x9_1)).f4) ((rd_T32 l0_6 (rd l1 x9_1)).f5) ((rd_T32 l0_6 (rd l1 x9_1)).f6)) else (entrepotlaw11_goes.j1 k1 l1 (wrap64 (x5_1 + ((rd_T32 l0_6 (rd l1 x9_1)).f2))) t626 ji14 x9_1 (decide ((ji14) > (wrap64 (t626 * ((rd_T32 l0_6 (rd l1 x9_1)).f4))))) a0_0 a0_1 a0_2 a0_3 a0_4 a0_5 l0_6 l0_7 ((rd_T32 l0_6 (rd l1 x9_1)).f0) ((rd_T32 l0_6 (rd l1 x9_1)).f1) ((rd_T32 l0_6 (rd l1 x9_1)).f2) ((rd_T32 l0_6 (rd l1 x9_1)).f3) ((rd_T32 l0_6 (rd l1 x9_1)).f4) ((rd_T32 l0_6 (rd l1 x9_1)).f5) ((rd_T32 l0_6 (rd l1 x9_1)).f6))))) = some r := by first | (rw [hji14] at H; exact H) | (simp only [hji14] at H ⊢; exact H)
        (try rw [hji14] at A13)
        have hji14_ : (if (wrap64 (x7_1 + t635)) < (wrap64 (t626 * ((rd_T32 l0_6 (rd l1 x9_1)).f3))) then (wrap64 (t626 * ((rd_T32 l0_6 (rd l1 x9_1)).f3))) else (wrap64 (x7_1 + t635))) = ji14 := hji14
        have HC15 := Aside0.mk H
        clear H
        try go_wp2
        have n0_ := Aside0.mk (blk_drew BK625.out)
        have n1_ := Aside0.mk (below_drew1 HB.out)
        clear BK625
        clear HB
        have BK625 := n0_
        have HB := n1_
        clear n0_ n1_
        have p631 : 0 ≤ (x9_1 : Int) := of_decide_eq_true (by first | (with_reducible assumption) | assumption)
        have q631 : x9_1 < (l1.length : Int) := of_decide_eq_true (by first | (with_reducible assumption) | assumption)
        obtain ⟨ad631, e631, hx631_0⟩ := Kd.at_int HR1.out x9_1 p631 q631
        have hw631_0 := hx631_0
        cases e631
        replace hx631_0 := (HB.out.cell (World.block_lt_of_cell? w _ hx631_0)).trans hx631_0
        replace p631 := eq_true p631
        replace q631 := eq_true q631
        have p632 : 0 ≤ ((rd l1 x9_1) : Int) := of_decide_eq_true (by first | (with_reducible assumption) | assumption)
        have q632 : (rd l1 x9_1) < (l0_6.length : Int) := of_decide_eq_true (by first | (with_reducible assumption) | assumption)
        obtain ⟨ad632, e632, hx632_0, hx632_1, hx632_2, hx632_3, hx632_4, hx632_5, hx632_6⟩ := at_T32 HR0_6.out (rd l1 x9_1) p632 q632
        have hw632_6 := hx632_6
        have hw632_5 := hx632_5
        have hw632_4 := hx632_4
        have hw632_3 := hx632_3
        have hw632_2 := hx632_2
        have hw632_1 := hx632_1
        have hw632_0 := hx632_0
        obtain rfl : ad627 = ad632 := (by injection e632)
        replace hx632_0 := (HB.out.cell (World.block_lt_of_cell? w _ hx632_0)).trans hx632_0
        replace hx632_1 := (HB.out.cell (World.block_lt_of_cell? w _ hx632_1)).trans hx632_1
        replace hx632_2 := (HB.out.cell (World.block_lt_of_cell? w _ hx632_2)).trans hx632_2
        replace hx632_3 := (HB.out.cell (World.block_lt_of_cell? w _ hx632_3)).trans hx632_3
        replace hx632_4 := (HB.out.cell (World.block_lt_of_cell? w _ hx632_4)).trans hx632_4
        replace hx632_5 := (HB.out.cell (World.block_lt_of_cell? w _ hx632_5)).trans hx632_5
        replace hx632_6 := (HB.out.cell (World.block_lt_of_cell? w _ hx632_6)).trans hx632_6
        replace p632 := eq_true p632
        replace q632 := eq_true q632
        refine start_ (n := 10) (S := fun w' => w'.cell? ⟨gb625, 0, none⟩ = some (.string a0_0) ∧ w'.cell? ⟨gb625, 1, none⟩ = some (.int .i64 a0_1) ∧ w'.cell? ⟨gb625, 2, none⟩ = some (.int .i64 a0_2) ∧ w'.cell? ⟨gb625, 3, none⟩ = some (.int .i64 a0_3) ∧ w'.cell? ⟨gb625, 4, none⟩ = some (.int .i64 a0_4) ∧ w'.cell? ⟨gb625, 5, none⟩ = some (.int .i64 a0_5) ∧ w'.cell? ⟨gb625, 6, none⟩ = some (.slice (some ad627) l0_6.length c0_6) ∧ w'.cell? ⟨gb625, 7, none⟩ = some (.slice A0_7 l0_7.length c0_7) ∧ w'.cell? (ad631.add (x9_1).toNat) = some (.int .i64 (rd l1 x9_1)) ∧ w'.cell? (ad627.add (((rd l1 x9_1)).toNat * 7)) = some (.int .i64 ((rd_T32 l0_6 (rd l1 x9_1)).f0)) ∧ w'.cell? ⟨(ad627.add (((rd l1 x9_1)).toNat * 7)).block, (ad627.add (((rd l1 x9_1)).toNat * 7)).off + 1, none⟩ = some (.int .i64 ((rd_T32 l0_6 (rd l1 x9_1)).f1)) ∧ w'.cell? ⟨(ad627.add (((rd l1 x9_1)).toNat * 7)).block, (ad627.add (((rd l1 x9_1)).toNat * 7)).off + 2, none⟩ = some (.int .i64 ((rd_T32 l0_6 (rd l1 x9_1)).f2)) ∧ w'.cell? ⟨(ad627.add (((rd l1 x9_1)).toNat * 7)).block, (ad627.add (((rd l1 x9_1)).toNat * 7)).off + 3, none⟩ = some (.int .i64 ((rd_T32 l0_6 (rd l1 x9_1)).f3)) ∧ w'.cell? ⟨(ad627.add (((rd l1 x9_1)).toNat * 7)).block, (ad627.add (((rd l1 x9_1)).toNat * 7)).off + 4, none⟩ = some (.int .i64 ((rd_T32 l0_6 (rd l1 x9_1)).f4)) ∧ w'.cell? ⟨(ad627.add (((rd l1 x9_1)).toNat * 7)).block, (ad627.add (((rd l1 x9_1)).toNat * 7)).off + 5, none⟩ = some (.int .i64 ((rd_T32 l0_6 (rd l1 x9_1)).f5)) ∧ w'.cell? ⟨(ad627.add (((rd l1 x9_1)).toNat * 7)).block, (ad627.add (((rd l1 x9_1)).toNat * 7)).off + 6, none⟩ = some (.int .i64 ((rd_T32 l0_6 (rd l1 x9_1)).f6))) (ds := []) #[false, false, false, false, false, false, false, false, false, false] (by kernel_rfl) rfl rfl ⟨(blk_cell BK625.out 0).trans rfl, (blk_cell BK625.out 1).trans rfl, (blk_cell BK625.out 2).trans rfl, (blk_cell BK625.out 3).trans rfl, (blk_cell BK625.out 4).trans rfl, (blk_cell BK625.out 5).trans rfl, (blk_cell BK625.out 6).trans rfl, (blk_cell BK625.out 7).trans rfl, ((HB.out.cell (World.block_lt_of_cell? w _ hw631_0)).trans hw631_0), ((HB.out.cell (World.block_lt_of_cell? w _ hw632_0)).trans hw632_0), ((HB.out.cell (World.block_lt_of_cell? w _ hw632_1)).trans hw632_1), ((HB.out.cell (World.block_lt_of_cell? w _ hw632_2)).trans hw632_2), ((HB.out.cell (World.block_lt_of_cell? w _ hw632_3)).trans hw632_3), ((HB.out.cell (World.block_lt_of_cell? w _ hw632_4)).trans hw632_4), ((HB.out.cell (World.block_lt_of_cell? w _ hw632_5)).trans hw632_5), ((HB.out.cell (World.block_lt_of_cell? w _ hw632_6)).trans hw632_6)⟩ (fun hHeld => ?_); refine with_tabW entrepotlaw11_goes.tab8 entrepotlaw11_goes.bits8 (fun HT_ HW_ => ?_)
        generalize wr.drew = w16 at BK625 HB hx631_0 hx632_0 hx632_1 hx632_2 hx632_3 hx632_4 hx632_5 hx632_6 hHeld ⊢
        refine pure_ (i := 0) (N := some 34) (v := ?_) (a' := ?_) #[true, false, false, false, false, false, false, false, false, false] rfl rfl (any_of HT_.out (by kernel_rfl)) (fun _ _ _ h => h) (Or.inl ⟨by rfl, ?_⟩) ?_ ?_
        rotate_left
        ·intro w'
         go_simp
         with_reducible rfl
        rotate_left
        ·simp only [Act.put, List.setIfInBounds_toArray, List.set_cons_zero, List.set_cons_succ, i64_w, i32_w]
         rfl
        refine pure_ (i := 2) (N := some 36) (v := ?_) (a' := ?_) #[true, false, true, false, false, false, false, false, false, false] rfl rfl (any_of HT_.out (by kernel_rfl)) (fun _ _ _ h => h) (Or.inl ⟨by rfl, ?_⟩) ?_ ?_
        rotate_left
        ·intro w'
         go_simp
         with_reducible rfl
        rotate_left
        ·simp only [Act.put, List.setIfInBounds_toArray, List.set_cons_zero, List.set_cons_succ, i64_w, i32_w]
         rfl
        refine pure_ (i := 3) (N := some 37) (v := ?_) (a' := ?_) #[true, false, true, true, false, false, false, false, false, false] rfl rfl (any_of HT_.out (by kernel_rfl)) (fun _ _ _ h => h) (Or.inl ⟨by rfl, ?_⟩) ?_ ?_
        rotate_left
        ·intro w'
         go_simp
         with_reducible rfl
        rotate_left
        ·simp only [Act.put, List.setIfInBounds_toArray, List.set_cons_zero, List.set_cons_succ, i64_w, i32_w]
         rfl
        refine pure_ (i := 4) (N := some 38) (v := ?_) (a' := ?_) #[true, false, true, true, true, false, false, false, false, false] rfl rfl (any_of HT_.out (by kernel_rfl)) (fun _ _ _ h => h) (Or.inl ⟨by rfl, ?_⟩) ?_ ?_
        rotate_left
        ·intro w'
         go_simp
         with_reducible rfl
        rotate_left
        ·simp only [Act.put, List.setIfInBounds_toArray, List.set_cons_zero, List.set_cons_succ, i64_w, i32_w]
         rfl
        refine take_ (i := 1) (N := some 35) (v := ?_) (a' := ?_) #[true, true, true, true, true, false, false, false, false, false] rfl rfl (take_ofW HT_.out HW_.out (by kernel_rfl)) (fun _ _ _ h => h) (Or.inl ⟨by rfl, ?_⟩) hHeld ?_ ?_
        rotate_left
        ·rintro w' ⟨s0, s1, s2, s3, s4, s5, s6, s7, s8, s9, s10, s11, s12, s13, s14, s15⟩
         go_simp
         with_reducible rfl
        rotate_left
        ·simp only [Act.put, List.setIfInBounds_toArray, List.set_cons_zero, List.set_cons_succ, i64_w, i32_w]
         rfl
        refine take_ (i := 5) (N := some 39) (v := ?_) (a' := ?_) #[true, true, true, true, true, true, false, false, false, false] rfl rfl (take_ofW HT_.out HW_.out (by kernel_rfl)) (fun _ _ _ h => h) (Or.inl ⟨by rfl, ?_⟩) hHeld ?_ ?_
        rotate_left
        ·rintro w' ⟨s0, s1, s2, s3, s4, s5, s6, s7, s8, s9, s10, s11, s12, s13, s14, s15⟩
         go_simp
         with_reducible rfl
        rotate_left
        ·simp only [Act.put, List.setIfInBounds_toArray, List.set_cons_zero, List.set_cons_succ, i64_w, i32_w]
         rfl
        refine pure_ (i := 6) (N := some 40) (v := ?_) (a' := ?_) #[true, true, true, true, true, true, true, false, false, false] rfl rfl (any_of HT_.out (by kernel_rfl)) (fun _ _ _ h => h) (Or.inl ⟨by rfl, ?_⟩) ?_ ?_
        rotate_left
        ·intro w'
         go_simp
         with_reducible rfl
        rotate_left
        ·simp only [Act.put, List.setIfInBounds_toArray, List.set_cons_zero, List.set_cons_succ, i64_w, i32_w]
         rfl
        refine take_ (i := 7) (N := some 41) (v := ?_) (a' := ?_) #[true, true, true, true, true, true, true, true, false, false] rfl rfl (take_ofW HT_.out HW_.out (by kernel_rfl)) (fun _ _ _ h => h) (Or.inl ⟨by rfl, ?_⟩) hHeld ?_ ?_
        rotate_left
        ·rintro w' ⟨s0, s1, s2, s3, s4, s5, s6, s7, s8, s9, s10, s11, s12, s13, s14, s15⟩
         go_simp
         with_reducible rfl
        rotate_left
        ·simp only [Act.put, List.setIfInBounds_toArray, List.set_cons_zero, List.set_cons_succ, i64_w, i32_w]
         rfl
        refine one_ (i := 8) (N := some 10) #[true, true, true, true, true, true, true, true, true, false] rfl rfl (one_of HT_.out (by kernel_rfl)) (by decide) (fun K hK => ?_)
        refine box_step ?hg (N := 10) ?hd (cs := #[.int .i64 0, .int .i64 0, .int .i64 0, .int .i64 0, .int .i64 0, .int .i64 0, .int .i64 0]) (t := 32) ?hr ?_; (case hd => rfl); (case hg => rfl); (case hr => first | (go_simp; done) | (go_simp; rfl))
        intro gb633 hg w17 hbox hb
        have n0_ := Aside0.mk (blk_below (g := gb625) (o := .cells #[.string a0_0, .int .i64 a0_1, .int .i64 a0_2, .int .i64 a0_3, .int .i64 a0_4, .int .i64 a0_5, .slice (some ad627) l0_6.length c0_6, .slice A0_7 l0_7.length c0_7] 25 (0, 0)) (by (with_reducible repeat (first | refine blk_drewN ?_ _ | refine blk_drew ?_ | refine blk_alloc ?_ _)); exact BK625.out) hb)
        have n1_ := Aside0.mk (below_step (by repeat (first | (with_reducible first | exact HB.out | apply below_alloc | apply pw_below_drewN | apply below_drew1 | refine below_set ?_ GE625.out) | exact HB.out)) hb)
        have n2_ := Aside0.mk (hbox)
        have n3_ := Aside0.mk ((by rw [hg]; exact (below_size (by repeat (first | (with_reducible first | exact HB.out | apply below_alloc | apply pw_below_drewN | apply below_drew1 | refine below_set ?_ GE625.out) | exact HB.out))) : w.heap.size ≤ gb633))
        have n4_ := Aside0.mk ((by rw [hg]; exact (below_size (by repeat (first | (with_reducible first | exact HB.out | apply below_alloc | apply pw_below_drewN | apply below_drew1 | refine below_set ?_ GE625.out) | exact HB.out))) : w.heap.size ≤ gb633))
        have n5_ := Aside0.mk ((by rw [hg]; exact Nat.ne_of_lt (blk_lt (g := gb625) (o := .cells #[.string a0_0, .int .i64 a0_1, .int .i64 a0_2, .int .i64 a0_3, .int .i64 a0_4, .int .i64 a0_5, .slice (some ad627) l0_6.length c0_6, .slice A0_7 l0_7.length c0_7] 25 (0, 0)) (by (with_reducible repeat (first | refine blk_drewN ?_ _ | refine blk_drew ?_ | refine blk_alloc ?_ _)); exact BK625.out)) : gb625 ≠ gb633))
        have n6_ := Aside0.mk ((by rw [hg]; exact Nat.ne_of_gt (blk_lt (g := gb625) (o := .cells #[.string a0_0, .int .i64 a0_1, .int .i64 a0_2, .int .i64 a0_3, .int .i64 a0_4, .int .i64 a0_5, .slice (some ad627) l0_6.length c0_6, .slice A0_7 l0_7.length c0_7] 25 (0, 0)) (by (with_reducible repeat (first | refine blk_drewN ?_ _ | refine blk_drew ?_ | refine blk_alloc ?_ _)); exact BK625.out)) : gb633 ≠ gb625))
        clear BK625
        clear HB
        have BK625 := n0_
        have HB := n1_
        have BK633 := n2_
        have GW633 := n3_
        have GE633 := n4_
        have NB625_633 := n5_
        have NB633_625 := n6_
        clear n0_ n1_ n2_ n3_ n4_ n5_ n6_
        clear hb hbox hg
        refine hK.out _ _ ⟨(blk_cell BK625.out 0).trans rfl, (blk_cell BK625.out 1).trans rfl, (blk_cell BK625.out 2).trans rfl, (blk_cell BK625.out 3).trans rfl, (blk_cell BK625.out 4).trans rfl, (blk_cell BK625.out 5).trans rfl, (blk_cell BK625.out 6).trans rfl, (blk_cell BK625.out 7).trans rfl, ((HB.out.cell (World.block_lt_of_cell? w _ hw631_0)).trans hw631_0), ((HB.out.cell (World.block_lt_of_cell? w _ hw632_0)).trans hw632_0), ((HB.out.cell (World.block_lt_of_cell? w _ hw632_1)).trans hw632_1), ((HB.out.cell (World.block_lt_of_cell? w _ hw632_2)).trans hw632_2), ((HB.out.cell (World.block_lt_of_cell? w _ hw632_3)).trans hw632_3), ((HB.out.cell (World.block_lt_of_cell? w _ hw632_4)).trans hw632_4), ((HB.out.cell (World.block_lt_of_cell? w _ hw632_5)).trans hw632_5), ((HB.out.cell (World.block_lt_of_cell? w _ hw632_6)).trans hw632_6)⟩ (fun hHeld => ?_)
        clear hK K
        refine norm_ (a' := ?_) ?_ ?_
        rotate_left
        ·show Act.put _ (some 10) _ = _
         simp only [Act.put, List.setIfInBounds_toArray, List.set_cons_zero, List.set_cons_succ, i64_w, i32_w]
         rfl
        refine one_ (i := 9) (N := none) #[true, true, true, true, true, true, true, true, true, true] rfl rfl (one_of HT_.out (by kernel_rfl)) (by decide) (fun K hK => ?_)
        have hs18 : w17.cell? ⟨gb633, 0, none⟩ = some (.int .i64 0) := (blk_cell BK633.out 0).trans rfl
        have hfs18 := blk_frozen BK633.out 0
        have hns18_0 := NB625_633.out
        have hms18_0 := NB633_625.out
        have hs19 : w17.cell? ⟨gb633, 1, none⟩ = some (.int .i64 0) := (blk_cell BK633.out 1).trans rfl
        have hfs19 := blk_frozen BK633.out 1
        have hns19_0 := NB625_633.out
        have hms19_0 := NB633_625.out
        have hs20 : w17.cell? ⟨gb633, 2, none⟩ = some (.int .i64 0) := (blk_cell BK633.out 2).trans rfl
        have hfs20 := blk_frozen BK633.out 2
        have hns20_0 := NB625_633.out
        have hms20_0 := NB633_625.out
        have hs21 : w17.cell? ⟨gb633, 3, none⟩ = some (.int .i64 0) := (blk_cell BK633.out 3).trans rfl
        have hfs21 := blk_frozen BK633.out 3
        have hns21_0 := NB625_633.out
        have hms21_0 := NB633_625.out
        have hs22 : w17.cell? ⟨gb633, 4, none⟩ = some (.int .i64 0) := (blk_cell BK633.out 4).trans rfl
        have hfs22 := blk_frozen BK633.out 4
        have hns22_0 := NB625_633.out
        have hms22_0 := NB633_625.out
        have hs23 : w17.cell? ⟨gb633, 5, none⟩ = some (.int .i64 0) := (blk_cell BK633.out 5).trans rfl
        have hfs23 := blk_frozen BK633.out 5
        have hns23_0 := NB625_633.out
        have hms23_0 := NB633_625.out
        have hs24 : w17.cell? ⟨gb633, 6, none⟩ = some (.int .i64 0) := (blk_cell BK633.out 6).trans rfl
        have hfs24 := blk_frozen BK633.out 6
        have hns24_0 := NB625_633.out
        have hms24_0 := NB633_625.out
        refine skip_ (w1 := ?_) (by rfl) rfl ?_ ?_
        rotate_left
        ·go_simp
         rfl
        refine hK.out _ _ ⟨((cell_far (p := ⟨gb633, _, none⟩) NB625_633.out _).trans (((cell_far (p := ⟨gb633, _, none⟩) NB625_633.out _).trans (((cell_far (p := ⟨gb633, _, none⟩) NB625_633.out _).trans (((cell_far (p := ⟨gb633, _, none⟩) NB625_633.out _).trans (((cell_far (p := ⟨gb633, _, none⟩) NB625_633.out _).trans (((cell_far (p := ⟨gb633, _, none⟩) NB625_633.out _).trans (((cell_far (p := ⟨gb633, _, none⟩) NB625_633.out _).trans (hHeld.1)))))))))))))), ((cell_far (p := ⟨gb633, _, none⟩) NB625_633.out _).trans (((cell_far (p := ⟨gb633, _, none⟩) NB625_633.out _).trans (((cell_far (p := ⟨gb633, _, none⟩) NB625_633.out _).trans (((cell_far (p := ⟨gb633, _, none⟩) NB625_633.out _).trans (((cell_far (p := ⟨gb633, _, none⟩) NB625_633.out _).trans (((cell_far (p := ⟨gb633, _, none⟩) NB625_633.out _).trans (((cell_far (p := ⟨gb633, _, none⟩) NB625_633.out _).trans (hHeld.2.1)))))))))))))), ((cell_far (p := ⟨gb633, _, none⟩) NB625_633.out _).trans (((cell_far (p := ⟨gb633, _, none⟩) NB625_633.out _).trans (((cell_far (p := ⟨gb633, _, none⟩) NB625_633.out _).trans (((cell_far (p := ⟨gb633, _, none⟩) NB625_633.out _).trans (((cell_far (p := ⟨gb633, _, none⟩) NB625_633.out _).trans (((cell_far (p := ⟨gb633, _, none⟩) NB625_633.out _).trans (((cell_far (p := ⟨gb633, _, none⟩) NB625_633.out _).trans (hHeld.2.2.1)))))))))))))), ((cell_far (p := ⟨gb633, _, none⟩) NB625_633.out _).trans (((cell_far (p := ⟨gb633, _, none⟩) NB625_633.out _).trans (((cell_far (p := ⟨gb633, _, none⟩) NB625_633.out _).trans (((cell_far (p := ⟨gb633, _, none⟩) NB625_633.out _).trans (((cell_far (p := ⟨gb633, _, none⟩) NB625_633.out _).trans (((cell_far (p := ⟨gb633, _, none⟩) NB625_633.out _).trans (((cell_far (p := ⟨gb633, _, none⟩) NB625_633.out _).trans (hHeld.2.2.2.1)))))))))))))), ((cell_far (p := ⟨gb633, _, none⟩) NB625_633.out _).trans (((cell_far (p := ⟨gb633, _, none⟩) NB625_633.out _).trans (((cell_far (p := ⟨gb633, _, none⟩) NB625_633.out _).trans (((cell_far (p := ⟨gb633, _, none⟩) NB625_633.out _).trans (((cell_far (p := ⟨gb633, _, none⟩) NB625_633.out _).trans (((cell_far (p := ⟨gb633, _, none⟩) NB625_633.out _).trans (((cell_far (p := ⟨gb633, _, none⟩) NB625_633.out _).trans (hHeld.2.2.2.2.1)))))))))))))), ((cell_far (p := ⟨gb633, _, none⟩) NB625_633.out _).trans (((cell_far (p := ⟨gb633, _, none⟩) NB625_633.out _).trans (((cell_far (p := ⟨gb633, _, none⟩) NB625_633.out _).trans (((cell_far (p := ⟨gb633, _, none⟩) NB625_633.out _).trans (((cell_far (p := ⟨gb633, _, none⟩) NB625_633.out _).trans (((cell_far (p := ⟨gb633, _, none⟩) NB625_633.out _).trans (((cell_far (p := ⟨gb633, _, none⟩) NB625_633.out _).trans (hHeld.2.2.2.2.2.1)))))))))))))), ((cell_far (p := ⟨gb633, _, none⟩) NB625_633.out _).trans (((cell_far (p := ⟨gb633, _, none⟩) NB625_633.out _).trans (((cell_far (p := ⟨gb633, _, none⟩) NB625_633.out _).trans (((cell_far (p := ⟨gb633, _, none⟩) NB625_633.out _).trans (((cell_far (p := ⟨gb633, _, none⟩) NB625_633.out _).trans (((cell_far (p := ⟨gb633, _, none⟩) NB625_633.out _).trans (((cell_far (p := ⟨gb633, _, none⟩) NB625_633.out _).trans (hHeld.2.2.2.2.2.2.1)))))))))))))), ((cell_far (p := ⟨gb633, _, none⟩) NB625_633.out _).trans (((cell_far (p := ⟨gb633, _, none⟩) NB625_633.out _).trans (((cell_far (p := ⟨gb633, _, none⟩) NB625_633.out _).trans (((cell_far (p := ⟨gb633, _, none⟩) NB625_633.out _).trans (((cell_far (p := ⟨gb633, _, none⟩) NB625_633.out _).trans (((cell_far (p := ⟨gb633, _, none⟩) NB625_633.out _).trans (((cell_far (p := ⟨gb633, _, none⟩) NB625_633.out _).trans (hHeld.2.2.2.2.2.2.2.1)))))))))))))), ((cell_far (p := ⟨gb633, _, none⟩) (by first | exact Nat.ne_of_lt (Nat.lt_of_lt_of_le (by have := World.block_lt_of_cell? _ _ hw631_0; first | rwa [add_block] at this | exact this) GW633.out) | (rw [add_block]; exact Nat.ne_of_lt (Nat.lt_of_lt_of_le (by have := World.block_lt_of_cell? _ _ hw631_0; first | rwa [add_block] at this | exact this) GW633.out)) | (show (Addr.add _ _).block ≠ _; rw [add_block]; exact Nat.ne_of_lt (Nat.lt_of_lt_of_le (by have := World.block_lt_of_cell? _ _ hw631_0; first | rwa [add_block] at this | exact this) GW633.out)) | (dsimp only; exact Nat.ne_of_lt (Nat.lt_of_lt_of_le (by have := World.block_lt_of_cell? _ _ hw631_0; first | rwa [add_block] at this | exact this) GW633.out))) _).trans (((cell_far (p := ⟨gb633, _, none⟩) (by first | exact Nat.ne_of_lt (Nat.lt_of_lt_of_le (by have := World.block_lt_of_cell? _ _ hw631_0; first | rwa [add_block] at this | exact this) GW633.out) | (rw [add_block]; exact Nat.ne_of_lt (Nat.lt_of_lt_of_le (by have := World.block_lt_of_cell? _ _ hw631_0; first | rwa [add_block] at this | exact this) GW633.out)) | (show (Addr.add _ _).block ≠ _; rw [add_block]; exact Nat.ne_of_lt (Nat.lt_of_lt_of_le (by have := World.block_lt_of_cell? _ _ hw631_0; first | rwa [add_block] at this | exact this) GW633.out)) | (dsimp only; exact Nat.ne_of_lt (Nat.lt_of_lt_of_le (by have := World.block_lt_of_cell? _ _ hw631_0; first | rwa [add_block] at this | exact this) GW633.out))) _).trans (((cell_far (p := ⟨gb633, _, none⟩) (by first | exact Nat.ne_of_lt (Nat.lt_of_lt_of_le (by have := World.block_lt_of_cell? _ _ hw631_0; first | rwa [add_block] at this | exact this) GW633.out) | (rw [add_block]; exact Nat.ne_of_lt (Nat.lt_of_lt_of_le (by have := World.block_lt_of_cell? _ _ hw631_0; first | rwa [add_block] at this | exact this) GW633.out)) | (show (Addr.add _ _).block ≠ _; rw [add_block]; exact Nat.ne_of_lt (Nat.lt_of_lt_of_le (by have := World.block_lt_of_cell? _ _ hw631_0; first | rwa [add_block] at this | exact this) GW633.out)) | (dsimp only; exact Nat.ne_of_lt (Nat.lt_of_lt_of_le (by have := World.block_lt_of_cell? _ _ hw631_0; first | rwa [add_block] at this | exact this) GW633.out))) _).trans (((cell_far (p := ⟨gb633, _, none⟩) (by first | exact Nat.ne_of_lt (Nat.lt_of_lt_of_le (by have := World.block_lt_of_cell? _ _ hw631_0; first | rwa [add_block] at this | exact this) GW633.out) | (rw [add_block]; exact Nat.ne_of_lt (Nat.lt_of_lt_of_le (by have := World.block_lt_of_cell? _ _ hw631_0; first | rwa [add_block] at this | exact this) GW633.out)) | (show (Addr.add _ _).block ≠ _; rw [add_block]; exact Nat.ne_of_lt (Nat.lt_of_lt_of_le (by have := World.block_lt_of_cell? _ _ hw631_0; first | rwa [add_block] at this | exact this) GW633.out)) | (dsimp only; exact Nat.ne_of_lt (Nat.lt_of_lt_of_le (by have := World.block_lt_of_cell? _ _ hw631_0; first | rwa [add_block] at this | exact this) GW633.out))) _).trans (((cell_far (p := ⟨gb633, _, none⟩) (by first | exact Nat.ne_of_lt (Nat.lt_of_lt_of_le (by have := World.block_lt_of_cell? _ _ hw631_0; first | rwa [add_block] at this | exact this) GW633.out) | (rw [add_block]; exact Nat.ne_of_lt (Nat.lt_of_lt_of_le (by have := World.block_lt_of_cell? _ _ hw631_0; first | rwa [add_block] at this | exact this) GW633.out)) | (show (Addr.add _ _).block ≠ _; rw [add_block]; exact Nat.ne_of_lt (Nat.lt_of_lt_of_le (by have := World.block_lt_of_cell? _ _ hw631_0; first | rwa [add_block] at this | exact this) GW633.out)) | (dsimp only; exact Nat.ne_of_lt (Nat.lt_of_lt_of_le (by have := World.block_lt_of_cell? _ _ hw631_0; first | rwa [add_block] at this | exact this) GW633.out))) _).trans (((cell_far (p := ⟨gb633, _, none⟩) (by first | exact Nat.ne_of_lt (Nat.lt_of_lt_of_le (by have := World.block_lt_of_cell? _ _ hw631_0; first | rwa [add_block] at this | exact this) GW633.out) | (rw [add_block]; exact Nat.ne_of_lt (Nat.lt_of_lt_of_le (by have := World.block_lt_of_cell? _ _ hw631_0; first | rwa [add_block] at this | exact this) GW633.out)) | (show (Addr.add _ _).block ≠ _; rw [add_block]; exact Nat.ne_of_lt (Nat.lt_of_lt_of_le (by have := World.block_lt_of_cell? _ _ hw631_0; first | rwa [add_block] at this | exact this) GW633.out)) | (dsimp only; exact Nat.ne_of_lt (Nat.lt_of_lt_of_le (by have := World.block_lt_of_cell? _ _ hw631_0; first | rwa [add_block] at this | exact this) GW633.out))) _).trans (((cell_far (p := ⟨gb633, _, none⟩) (by first | exact Nat.ne_of_lt (Nat.lt_of_lt_of_le (by have := World.block_lt_of_cell? _ _ hw631_0; first | rwa [add_block] at this | exact this) GW633.out) | (rw [add_block]; exact Nat.ne_of_lt (Nat.lt_of_lt_of_le (by have := World.block_lt_of_cell? _ _ hw631_0; first | rwa [add_block] at this | exact this) GW633.out)) | (show (Addr.add _ _).block ≠ _; rw [add_block]; exact Nat.ne_of_lt (Nat.lt_of_lt_of_le (by have := World.block_lt_of_cell? _ _ hw631_0; first | rwa [add_block] at this | exact this) GW633.out)) | (dsimp only; exact Nat.ne_of_lt (Nat.lt_of_lt_of_le (by have := World.block_lt_of_cell? _ _ hw631_0; first | rwa [add_block] at this | exact this) GW633.out))) _).trans (hHeld.2.2.2.2.2.2.2.2.1)))))))))))))), ((cell_far (p := ⟨gb633, _, none⟩) (by first | exact Nat.ne_of_lt (Nat.lt_of_lt_of_le (by have := World.block_lt_of_cell? _ _ hw632_0; first | rwa [add_block] at this | exact this) GW633.out) | (rw [add_block]; exact Nat.ne_of_lt (Nat.lt_of_lt_of_le (by have := World.block_lt_of_cell? _ _ hw632_0; first | rwa [add_block] at this | exact this) GW633.out)) | (show (Addr.add _ _).block ≠ _; rw [add_block]; exact Nat.ne_of_lt (Nat.lt_of_lt_of_le (by have := World.block_lt_of_cell? _ _ hw632_0; first | rwa [add_block] at this | exact this) GW633.out)) | (dsimp only; exact Nat.ne_of_lt (Nat.lt_of_lt_of_le (by have := World.block_lt_of_cell? _ _ hw632_0; first | rwa [add_block] at this | exact this) GW633.out))) _).trans (((cell_far (p := ⟨gb633, _, none⟩) (by first | exact Nat.ne_of_lt (Nat.lt_of_lt_of_le (by have := World.block_lt_of_cell? _ _ hw632_0; first | rwa [add_block] at this | exact this) GW633.out) | (rw [add_block]; exact Nat.ne_of_lt (Nat.lt_of_lt_of_le (by have := World.block_lt_of_cell? _ _ hw632_0; first | rwa [add_block] at this | exact this) GW633.out)) | (show (Addr.add _ _).block ≠ _; rw [add_block]; exact Nat.ne_of_lt (Nat.lt_of_lt_of_le (by have := World.block_lt_of_cell? _ _ hw632_0; first | rwa [add_block] at this | exact this) GW633.out)) | (dsimp only; exact Nat.ne_of_lt (Nat.lt_of_lt_of_le (by have := World.block_lt_of_cell? _ _ hw632_0; first | rwa [add_block] at this | exact this) GW633.out))) _).trans (((cell_far (p := ⟨gb633, _, none⟩) (by first | exact Nat.ne_of_lt (Nat.lt_of_lt_of_le (by have := World.block_lt_of_cell? _ _ hw632_0; first | rwa [add_block] at this | exact this) GW633.out) | (rw [add_block]; exact Nat.ne_of_lt (Nat.lt_of_lt_of_le (by have := World.block_lt_of_cell? _ _ hw632_0; first | rwa [add_block] at this | exact this) GW633.out)) | (show (Addr.add _ _).block ≠ _; rw [add_block]; exact Nat.ne_of_lt (Nat.lt_of_lt_of_le (by have := World.block_lt_of_cell? _ _ hw632_0; first | rwa [add_block] at this | exact this) GW633.out)) | (dsimp only; exact Nat.ne_of_lt (Nat.lt_of_lt_of_le (by have := World.block_lt_of_cell? _ _ hw632_0; first | rwa [add_block] at this | exact this) GW633.out))) _).trans (((cell_far (p := ⟨gb633, _, none⟩) (by first | exact Nat.ne_of_lt (Nat.lt_of_lt_of_le (by have := World.block_lt_of_cell? _ _ hw632_0; first | rwa [add_block] at this | exact this) GW633.out) | (rw [add_block]; exact Nat.ne_of_lt (Nat.lt_of_lt_of_le (by have := World.block_lt_of_cell? _ _ hw632_0; first | rwa [add_block] at this | exact this) GW633.out)) | (show (Addr.add _ _).block ≠ _; rw [add_block]; exact Nat.ne_of_lt (Nat.lt_of_lt_of_le (by have := World.block_lt_of_cell? _ _ hw632_0; first | rwa [add_block] at this | exact this) GW633.out)) | (dsimp only; exact Nat.ne_of_lt (Nat.lt_of_lt_of_le (by have := World.block_lt_of_cell? _ _ hw632_0; first | rwa [add_block] at this | exact this) GW633.out))) _).trans (((cell_far (p := ⟨gb633, _, none⟩) (by first | exact Nat.ne_of_lt (Nat.lt_of_lt_of_le (by have := World.block_lt_of_cell? _ _ hw632_0; first | rwa [add_block] at this | exact this) GW633.out) | (rw [add_block]; exact Nat.ne_of_lt (Nat.lt_of_lt_of_le (by have := World.block_lt_of_cell? _ _ hw632_0; first | rwa [add_block] at this | exact this) GW633.out)) | (show (Addr.add _ _).block ≠ _; rw [add_block]; exact Nat.ne_of_lt (Nat.lt_of_lt_of_le (by have := World.block_lt_of_cell? _ _ hw632_0; first | rwa [add_block] at this | exact this) GW633.out)) | (dsimp only; exact Nat.ne_of_lt (Nat.lt_of_lt_of_le (by have := World.block_lt_of_cell? _ _ hw632_0; first | rwa [add_block] at this | exact this) GW633.out))) _).trans (((cell_far (p := ⟨gb633, _, none⟩) (by first | exact Nat.ne_of_lt (Nat.lt_of_lt_of_le (by have := World.block_lt_of_cell? _ _ hw632_0; first | rwa [add_block] at this | exact this) GW633.out) | (rw [add_block]; exact Nat.ne_of_lt (Nat.lt_of_lt_of_le (by have := World.block_lt_of_cell? _ _ hw632_0; first | rwa [add_block] at this | exact this) GW633.out)) | (show (Addr.add _ _).block ≠ _; rw [add_block]; exact Nat.ne_of_lt (Nat.lt_of_lt_of_le (by have := World.block_lt_of_cell? _ _ hw632_0; first | rwa [add_block] at this | exact this) GW633.out)) | (dsimp only; exact Nat.ne_of_lt (Nat.lt_of_lt_of_le (by have := World.block_lt_of_cell? _ _ hw632_0; first | rwa [add_block] at this | exact this) GW633.out))) _).trans (((cell_far (p := ⟨gb633, _, none⟩) (by first | exact Nat.ne_of_lt (Nat.lt_of_lt_of_le (by have := World.block_lt_of_cell? _ _ hw632_0; first | rwa [add_block] at this | exact this) GW633.out) | (rw [add_block]; exact Nat.ne_of_lt (Nat.lt_of_lt_of_le (by have := World.block_lt_of_cell? _ _ hw632_0; first | rwa [add_block] at this | exact this) GW633.out)) | (show (Addr.add _ _).block ≠ _; rw [add_block]; exact Nat.ne_of_lt (Nat.lt_of_lt_of_le (by have := World.block_lt_of_cell? _ _ hw632_0; first | rwa [add_block] at this | exact this) GW633.out)) | (dsimp only; exact Nat.ne_of_lt (Nat.lt_of_lt_of_le (by have := World.block_lt_of_cell? _ _ hw632_0; first | rwa [add_block] at this | exact this) GW633.out))) _).trans (hHeld.2.2.2.2.2.2.2.2.2.1)))))))))))))), ((cell_far (p := ⟨gb633, _, none⟩) (by first | exact Nat.ne_of_lt (Nat.lt_of_lt_of_le (by have := World.block_lt_of_cell? _ _ hw632_1; first | rwa [add_block] at this | exact this) GW633.out) | (rw [add_block]; exact Nat.ne_of_lt (Nat.lt_of_lt_of_le (by have := World.block_lt_of_cell? _ _ hw632_1; first | rwa [add_block] at this | exact this) GW633.out)) | (show (Addr.add _ _).block ≠ _; rw [add_block]; exact Nat.ne_of_lt (Nat.lt_of_lt_of_le (by have := World.block_lt_of_cell? _ _ hw632_1; first | rwa [add_block] at this | exact this) GW633.out)) | (dsimp only; exact Nat.ne_of_lt (Nat.lt_of_lt_of_le (by have := World.block_lt_of_cell? _ _ hw632_1; first | rwa [add_block] at this | exact this) GW633.out))) _).trans (((cell_far (p := ⟨gb633, _, none⟩) (by first | exact Nat.ne_of_lt (Nat.lt_of_lt_of_le (by have := World.block_lt_of_cell? _ _ hw632_1; first | rwa [add_block] at this | exact this) GW633.out) | (rw [add_block]; exact Nat.ne_of_lt (Nat.lt_of_lt_of_le (by have := World.block_lt_of_cell? _ _ hw632_1; first | rwa [add_block] at this | exact this) GW633.out)) | (show (Addr.add _ _).block ≠ _; rw [add_block]; exact Nat.ne_of_lt (Nat.lt_of_lt_of_le (by have := World.block_lt_of_cell? _ _ hw632_1; first | rwa [add_block] at this | exact this) GW633.out)) | (dsimp only; exact Nat.ne_of_lt (Nat.lt_of_lt_of_le (by have := World.block_lt_of_cell? _ _ hw632_1; first | rwa [add_block] at this | exact this) GW633.out))) _).trans (((cell_far (p := ⟨gb633, _, none⟩) (by first | exact Nat.ne_of_lt (Nat.lt_of_lt_of_le (by have := World.block_lt_of_cell? _ _ hw632_1; first | rwa [add_block] at this | exact this) GW633.out) | (rw [add_block]; exact Nat.ne_of_lt (Nat.lt_of_lt_of_le (by have := World.block_lt_of_cell? _ _ hw632_1; first | rwa [add_block] at this | exact this) GW633.out)) | (show (Addr.add _ _).block ≠ _; rw [add_block]; exact Nat.ne_of_lt (Nat.lt_of_lt_of_le (by have := World.block_lt_of_cell? _ _ hw632_1; first | rwa [add_block] at this | exact this) GW633.out)) | (dsimp only; exact Nat.ne_of_lt (Nat.lt_of_lt_of_le (by have := World.block_lt_of_cell? _ _ hw632_1; first | rwa [add_block] at this | exact this) GW633.out))) _).trans (((cell_far (p := ⟨gb633, _, none⟩) (by first | exact Nat.ne_of_lt (Nat.lt_of_lt_of_le (by have := World.block_lt_of_cell? _ _ hw632_1; first | rwa [add_block] at this | exact this) GW633.out) | (rw [add_block]; exact Nat.ne_of_lt (Nat.lt_of_lt_of_le (by have := World.block_lt_of_cell? _ _ hw632_1; first | rwa [add_block] at this | exact this) GW633.out)) | (show (Addr.add _ _).block ≠ _; rw [add_block]; exact Nat.ne_of_lt (Nat.lt_of_lt_of_le (by have := World.block_lt_of_cell? _ _ hw632_1; first | rwa [add_block] at this | exact this) GW633.out)) | (dsimp only; exact Nat.ne_of_lt (Nat.lt_of_lt_of_le (by have := World.block_lt_of_cell? _ _ hw632_1; first | rwa [add_block] at this | exact this) GW633.out))) _).trans (((cell_far (p := ⟨gb633, _, none⟩) (by first | exact Nat.ne_of_lt (Nat.lt_of_lt_of_le (by have := World.block_lt_of_cell? _ _ hw632_1; first | rwa [add_block] at this | exact this) GW633.out) | (rw [add_block]; exact Nat.ne_of_lt (Nat.lt_of_lt_of_le (by have := World.block_lt_of_cell? _ _ hw632_1; first | rwa [add_block] at this | exact this) GW633.out)) | (show (Addr.add _ _).block ≠ _; rw [add_block]; exact Nat.ne_of_lt (Nat.lt_of_lt_of_le (by have := World.block_lt_of_cell? _ _ hw632_1; first | rwa [add_block] at this | exact this) GW633.out)) | (dsimp only; exact Nat.ne_of_lt (Nat.lt_of_lt_of_le (by have := World.block_lt_of_cell? _ _ hw632_1; first | rwa [add_block] at this | exact this) GW633.out))) _).trans (((cell_far (p := ⟨gb633, _, none⟩) (by first | exact Nat.ne_of_lt (Nat.lt_of_lt_of_le (by have := World.block_lt_of_cell? _ _ hw632_1; first | rwa [add_block] at this | exact this) GW633.out) | (rw [add_block]; exact Nat.ne_of_lt (Nat.lt_of_lt_of_le (by have := World.block_lt_of_cell? _ _ hw632_1; first | rwa [add_block] at this | exact this) GW633.out)) | (show (Addr.add _ _).block ≠ _; rw [add_block]; exact Nat.ne_of_lt (Nat.lt_of_lt_of_le (by have := World.block_lt_of_cell? _ _ hw632_1; first | rwa [add_block] at this | exact this) GW633.out)) | (dsimp only; exact Nat.ne_of_lt (Nat.lt_of_lt_of_le (by have := World.block_lt_of_cell? _ _ hw632_1; first | rwa [add_block] at this | exact this) GW633.out))) _).trans (((cell_far (p := ⟨gb633, _, none⟩) (by first | exact Nat.ne_of_lt (Nat.lt_of_lt_of_le (by have := World.block_lt_of_cell? _ _ hw632_1; first | rwa [add_block] at this | exact this) GW633.out) | (rw [add_block]; exact Nat.ne_of_lt (Nat.lt_of_lt_of_le (by have := World.block_lt_of_cell? _ _ hw632_1; first | rwa [add_block] at this | exact this) GW633.out)) | (show (Addr.add _ _).block ≠ _; rw [add_block]; exact Nat.ne_of_lt (Nat.lt_of_lt_of_le (by have := World.block_lt_of_cell? _ _ hw632_1; first | rwa [add_block] at this | exact this) GW633.out)) | (dsimp only; exact Nat.ne_of_lt (Nat.lt_of_lt_of_le (by have := World.block_lt_of_cell? _ _ hw632_1; first | rwa [add_block] at this | exact this) GW633.out))) _).trans (hHeld.2.2.2.2.2.2.2.2.2.2.1)))))))))))))), ((cell_far (p := ⟨gb633, _, none⟩) (by first | exact Nat.ne_of_lt (Nat.lt_of_lt_of_le (by have := World.block_lt_of_cell? _ _ hw632_2; first | rwa [add_block] at this | exact this) GW633.out) | (rw [add_block]; exact Nat.ne_of_lt (Nat.lt_of_lt_of_le (by have := World.block_lt_of_cell? _ _ hw632_2; first | rwa [add_block] at this | exact this) GW633.out)) | (show (Addr.add _ _).block ≠ _; rw [add_block]; exact Nat.ne_of_lt (Nat.lt_of_lt_of_le (by have := World.block_lt_of_cell? _ _ hw632_2; first | rwa [add_block] at this | exact this) GW633.out)) | (dsimp only; exact Nat.ne_of_lt (Nat.lt_of_lt_of_le (by have := World.block_lt_of_cell? _ _ hw632_2; first | rwa [add_block] at this | exact this) GW633.out))) _).trans (((cell_far (p := ⟨gb633, _, none⟩) (by first | exact Nat.ne_of_lt (Nat.lt_of_lt_of_le (by have := World.block_lt_of_cell? _ _ hw632_2; first | rwa [add_block] at this | exact this) GW633.out) | (rw [add_block]; exact Nat.ne_of_lt (Nat.lt_of_lt_of_le (by have := World.block_lt_of_cell? _ _ hw632_2; first | rwa [add_block] at this | exact this) GW633.out)) | (show (Addr.add _ _).block ≠ _; rw [add_block]; exact Nat.ne_of_lt (Nat.lt_of_lt_of_le (by have := World.block_lt_of_cell? _ _ hw632_2; first | rwa [add_block] at this | exact this) GW633.out)) | (dsimp only; exact Nat.ne_of_lt (Nat.lt_of_lt_of_le (by have := World.block_lt_of_cell? _ _ hw632_2; first | rwa [add_block] at this | exact this) GW633.out))) _).trans (((cell_far (p := ⟨gb633, _, none⟩) (by first | exact Nat.ne_of_lt (Nat.lt_of_lt_of_le (by have := World.block_lt_of_cell? _ _ hw632_2; first | rwa [add_block] at this | exact this) GW633.out) | (rw [add_block]; exact Nat.ne_of_lt (Nat.lt_of_lt_of_le (by have := World.block_lt_of_cell? _ _ hw632_2; first | rwa [add_block] at this | exact this) GW633.out)) | (show (Addr.add _ _).block ≠ _; rw [add_block]; exact Nat.ne_of_lt (Nat.lt_of_lt_of_le (by have := World.block_lt_of_cell? _ _ hw632_2; first | rwa [add_block] at this | exact this) GW633.out)) | (dsimp only; exact Nat.ne_of_lt (Nat.lt_of_lt_of_le (by have := World.block_lt_of_cell? _ _ hw632_2; first | rwa [add_block] at this | exact this) GW633.out))) _).trans (((cell_far (p := ⟨gb633, _, none⟩) (by first | exact Nat.ne_of_lt (Nat.lt_of_lt_of_le (by have := World.block_lt_of_cell? _ _ hw632_2; first | rwa [add_block] at this | exact this) GW633.out) | (rw [add_block]; exact Nat.ne_of_lt (Nat.lt_of_lt_of_le (by have := World.block_lt_of_cell? _ _ hw632_2; first | rwa [add_block] at this | exact this) GW633.out)) | (show (Addr.add _ _).block ≠ _; rw [add_block]; exact Nat.ne_of_lt (Nat.lt_of_lt_of_le (by have := World.block_lt_of_cell? _ _ hw632_2; first | rwa [add_block] at this | exact this) GW633.out)) | (dsimp only; exact Nat.ne_of_lt (Nat.lt_of_lt_of_le (by have := World.block_lt_of_cell? _ _ hw632_2; first | rwa [add_block] at this | exact this) GW633.out))) _).trans (((cell_far (p := ⟨gb633, _, none⟩) (by first | exact Nat.ne_of_lt (Nat.lt_of_lt_of_le (by have := World.block_lt_of_cell? _ _ hw632_2; first | rwa [add_block] at this | exact this) GW633.out) | (rw [add_block]; exact Nat.ne_of_lt (Nat.lt_of_lt_of_le (by have := World.block_lt_of_cell? _ _ hw632_2; first | rwa [add_block] at this | exact this) GW633.out)) | (show (Addr.add _ _).block ≠ _; rw [add_block]; exact Nat.ne_of_lt (Nat.lt_of_lt_of_le (by have := World.block_lt_of_cell? _ _ hw632_2; first | rwa [add_block] at this | exact this) GW633.out)) | (dsimp only; exact Nat.ne_of_lt (Nat.lt_of_lt_of_le (by have := World.block_lt_of_cell? _ _ hw632_2; first | rwa [add_block] at this | exact this) GW633.out))) _).trans (((cell_far (p := ⟨gb633, _, none⟩) (by first | exact Nat.ne_of_lt (Nat.lt_of_lt_of_le (by have := World.block_lt_of_cell? _ _ hw632_2; first | rwa [add_block] at this | exact this) GW633.out) | (rw [add_block]; exact Nat.ne_of_lt (Nat.lt_of_lt_of_le (by have := World.block_lt_of_cell? _ _ hw632_2; first | rwa [add_block] at this | exact this) GW633.out)) | (show (Addr.add _ _).block ≠ _; rw [add_block]; exact Nat.ne_of_lt (Nat.lt_of_lt_of_le (by have := World.block_lt_of_cell? _ _ hw632_2; first | rwa [add_block] at this | exact this) GW633.out)) | (dsimp only; exact Nat.ne_of_lt (Nat.lt_of_lt_of_le (by have := World.block_lt_of_cell? _ _ hw632_2; first | rwa [add_block] at this | exact this) GW633.out))) _).trans (((cell_far (p := ⟨gb633, _, none⟩) (by first | exact Nat.ne_of_lt (Nat.lt_of_lt_of_le (by have := World.block_lt_of_cell? _ _ hw632_2; first | rwa [add_block] at this | exact this) GW633.out) | (rw [add_block]; exact Nat.ne_of_lt (Nat.lt_of_lt_of_le (by have := World.block_lt_of_cell? _ _ hw632_2; first | rwa [add_block] at this | exact this) GW633.out)) | (show (Addr.add _ _).block ≠ _; rw [add_block]; exact Nat.ne_of_lt (Nat.lt_of_lt_of_le (by have := World.block_lt_of_cell? _ _ hw632_2; first | rwa [add_block] at this | exact this) GW633.out)) | (dsimp only; exact Nat.ne_of_lt (Nat.lt_of_lt_of_le (by have := World.block_lt_of_cell? _ _ hw632_2; first | rwa [add_block] at this | exact this) GW633.out))) _).trans (hHeld.2.2.2.2.2.2.2.2.2.2.2.1)))))))))))))), ((cell_far (p := ⟨gb633, _, none⟩) (by first | exact Nat.ne_of_lt (Nat.lt_of_lt_of_le (by have := World.block_lt_of_cell? _ _ hw632_3; first | rwa [add_block] at this | exact this) GW633.out) | (rw [add_block]; exact Nat.ne_of_lt (Nat.lt_of_lt_of_le (by have := World.block_lt_of_cell? _ _ hw632_3; first | rwa [add_block] at this | exact this) GW633.out)) | (show (Addr.add _ _).block ≠ _; rw [add_block]; exact Nat.ne_of_lt (Nat.lt_of_lt_of_le (by have := World.block_lt_of_cell? _ _ hw632_3; first | rwa [add_block] at this | exact this) GW633.out)) | (dsimp only; exact Nat.ne_of_lt (Nat.lt_of_lt_of_le (by have := World.block_lt_of_cell? _ _ hw632_3; first | rwa [add_block] at this | exact this) GW633.out))) _).trans (((cell_far (p := ⟨gb633, _, none⟩) (by first | exact Nat.ne_of_lt (Nat.lt_of_lt_of_le (by have := World.block_lt_of_cell? _ _ hw632_3; first | rwa [add_block] at this | exact this) GW633.out) | (rw [add_block]; exact Nat.ne_of_lt (Nat.lt_of_lt_of_le (by have := World.block_lt_of_cell? _ _ hw632_3; first | rwa [add_block] at this | exact this) GW633.out)) | (show (Addr.add _ _).block ≠ _; rw [add_block]; exact Nat.ne_of_lt (Nat.lt_of_lt_of_le (by have := World.block_lt_of_cell? _ _ hw632_3; first | rwa [add_block] at this | exact this) GW633.out)) | (dsimp only; exact Nat.ne_of_lt (Nat.lt_of_lt_of_le (by have := World.block_lt_of_cell? _ _ hw632_3; first | rwa [add_block] at this | exact this) GW633.out))) _).trans (((cell_far (p := ⟨gb633, _, none⟩) (by first | exact Nat.ne_of_lt (Nat.lt_of_lt_of_le (by have := World.block_lt_of_cell? _ _ hw632_3; first | rwa [add_block] at this | exact this) GW633.out) | (rw [add_block]; exact Nat.ne_of_lt (Nat.lt_of_lt_of_le (by have := World.block_lt_of_cell? _ _ hw632_3; first | rwa [add_block] at this | exact this) GW633.out)) | (show (Addr.add _ _).block ≠ _; rw [add_block]; exact Nat.ne_of_lt (Nat.lt_of_lt_of_le (by have := World.block_lt_of_cell? _ _ hw632_3; first | rwa [add_block] at this | exact this) GW633.out)) | (dsimp only; exact Nat.ne_of_lt (Nat.lt_of_lt_of_le (by have := World.block_lt_of_cell? _ _ hw632_3; first | rwa [add_block] at this | exact this) GW633.out))) _).trans (((cell_far (p := ⟨gb633, _, none⟩) (by first | exact Nat.ne_of_lt (Nat.lt_of_lt_of_le (by have := World.block_lt_of_cell? _ _ hw632_3; first | rwa [add_block] at this | exact this) GW633.out) | (rw [add_block]; exact Nat.ne_of_lt (Nat.lt_of_lt_of_le (by have := World.block_lt_of_cell? _ _ hw632_3; first | rwa [add_block] at this | exact this) GW633.out)) | (show (Addr.add _ _).block ≠ _; rw [add_block]; exact Nat.ne_of_lt (Nat.lt_of_lt_of_le (by have := World.block_lt_of_cell? _ _ hw632_3; first | rwa [add_block] at this | exact this) GW633.out)) | (dsimp only; exact Nat.ne_of_lt (Nat.lt_of_lt_of_le (by have := World.block_lt_of_cell? _ _ hw632_3; first | rwa [add_block] at this | exact this) GW633.out))) _).trans (((cell_far (p := ⟨gb633, _, none⟩) (by first | exact Nat.ne_of_lt (Nat.lt_of_lt_of_le (by have := World.block_lt_of_cell? _ _ hw632_3; first | rwa [add_block] at this | exact this) GW633.out) | (rw [add_block]; exact Nat.ne_of_lt (Nat.lt_of_lt_of_le (by have := World.block_lt_of_cell? _ _ hw632_3; first | rwa [add_block] at this | exact this) GW633.out)) | (show (Addr.add _ _).block ≠ _; rw [add_block]; exact Nat.ne_of_lt (Nat.lt_of_lt_of_le (by have := World.block_lt_of_cell? _ _ hw632_3; first | rwa [add_block] at this | exact this) GW633.out)) | (dsimp only; exact Nat.ne_of_lt (Nat.lt_of_lt_of_le (by have := World.block_lt_of_cell? _ _ hw632_3; first | rwa [add_block] at this | exact this) GW633.out))) _).trans (((cell_far (p := ⟨gb633, _, none⟩) (by first | exact Nat.ne_of_lt (Nat.lt_of_lt_of_le (by have := World.block_lt_of_cell? _ _ hw632_3; first | rwa [add_block] at this | exact this) GW633.out) | (rw [add_block]; exact Nat.ne_of_lt (Nat.lt_of_lt_of_le (by have := World.block_lt_of_cell? _ _ hw632_3; first | rwa [add_block] at this | exact this) GW633.out)) | (show (Addr.add _ _).block ≠ _; rw [add_block]; exact Nat.ne_of_lt (Nat.lt_of_lt_of_le (by have := World.block_lt_of_cell? _ _ hw632_3; first | rwa [add_block] at this | exact this) GW633.out)) | (dsimp only; exact Nat.ne_of_lt (Nat.lt_of_lt_of_le (by have := World.block_lt_of_cell? _ _ hw632_3; first | rwa [add_block] at this | exact this) GW633.out))) _).trans (((cell_far (p := ⟨gb633, _, none⟩) (by first | exact Nat.ne_of_lt (Nat.lt_of_lt_of_le (by have := World.block_lt_of_cell? _ _ hw632_3; first | rwa [add_block] at this | exact this) GW633.out) | (rw [add_block]; exact Nat.ne_of_lt (Nat.lt_of_lt_of_le (by have := World.block_lt_of_cell? _ _ hw632_3; first | rwa [add_block] at this | exact this) GW633.out)) | (show (Addr.add _ _).block ≠ _; rw [add_block]; exact Nat.ne_of_lt (Nat.lt_of_lt_of_le (by have := World.block_lt_of_cell? _ _ hw632_3; first | rwa [add_block] at this | exact this) GW633.out)) | (dsimp only; exact Nat.ne_of_lt (Nat.lt_of_lt_of_le (by have := World.block_lt_of_cell? _ _ hw632_3; first | rwa [add_block] at this | exact this) GW633.out))) _).trans (hHeld.2.2.2.2.2.2.2.2.2.2.2.2.1)))))))))))))), ((cell_far (p := ⟨gb633, _, none⟩) (by first | exact Nat.ne_of_lt (Nat.lt_of_lt_of_le (by have := World.block_lt_of_cell? _ _ hw632_4; first | rwa [add_block] at this | exact this) GW633.out) | (rw [add_block]; exact Nat.ne_of_lt (Nat.lt_of_lt_of_le (by have := World.block_lt_of_cell? _ _ hw632_4; first | rwa [add_block] at this | exact this) GW633.out)) | (show (Addr.add _ _).block ≠ _; rw [add_block]; exact Nat.ne_of_lt (Nat.lt_of_lt_of_le (by have := World.block_lt_of_cell? _ _ hw632_4; first | rwa [add_block] at this | exact this) GW633.out)) | (dsimp only; exact Nat.ne_of_lt (Nat.lt_of_lt_of_le (by have := World.block_lt_of_cell? _ _ hw632_4; first | rwa [add_block] at this | exact this) GW633.out))) _).trans (((cell_far (p := ⟨gb633, _, none⟩) (by first | exact Nat.ne_of_lt (Nat.lt_of_lt_of_le (by have := World.block_lt_of_cell? _ _ hw632_4; first | rwa [add_block] at this | exact this) GW633.out) | (rw [add_block]; exact Nat.ne_of_lt (Nat.lt_of_lt_of_le (by have := World.block_lt_of_cell? _ _ hw632_4; first | rwa [add_block] at this | exact this) GW633.out)) | (show (Addr.add _ _).block ≠ _; rw [add_block]; exact Nat.ne_of_lt (Nat.lt_of_lt_of_le (by have := World.block_lt_of_cell? _ _ hw632_4; first | rwa [add_block] at this | exact this) GW633.out)) | (dsimp only; exact Nat.ne_of_lt (Nat.lt_of_lt_of_le (by have := World.block_lt_of_cell? _ _ hw632_4; first | rwa [add_block] at this | exact this) GW633.out))) _).trans (((cell_far (p := ⟨gb633, _, none⟩) (by first | exact Nat.ne_of_lt (Nat.lt_of_lt_of_le (by have := World.block_lt_of_cell? _ _ hw632_4; first | rwa [add_block] at this | exact this) GW633.out) | (rw [add_block]; exact Nat.ne_of_lt (Nat.lt_of_lt_of_le (by have := World.block_lt_of_cell? _ _ hw632_4; first | rwa [add_block] at this | exact this) GW633.out)) | (show (Addr.add _ _).block ≠ _; rw [add_block]; exact Nat.ne_of_lt (Nat.lt_of_lt_of_le (by have := World.block_lt_of_cell? _ _ hw632_4; first | rwa [add_block] at this | exact this) GW633.out)) | (dsimp only; exact Nat.ne_of_lt (Nat.lt_of_lt_of_le (by have := World.block_lt_of_cell? _ _ hw632_4; first | rwa [add_block] at this | exact this) GW633.out))) _).trans (((cell_far (p := ⟨gb633, _, none⟩) (by first | exact Nat.ne_of_lt (Nat.lt_of_lt_of_le (by have := World.block_lt_of_cell? _ _ hw632_4; first | rwa [add_block] at this | exact this) GW633.out) | (rw [add_block]; exact Nat.ne_of_lt (Nat.lt_of_lt_of_le (by have := World.block_lt_of_cell? _ _ hw632_4; first | rwa [add_block] at this | exact this) GW633.out)) | (show (Addr.add _ _).block ≠ _; rw [add_block]; exact Nat.ne_of_lt (Nat.lt_of_lt_of_le (by have := World.block_lt_of_cell? _ _ hw632_4; first | rwa [add_block] at this | exact this) GW633.out)) | (dsimp only; exact Nat.ne_of_lt (Nat.lt_of_lt_of_le (by have := World.block_lt_of_cell? _ _ hw632_4; first | rwa [add_block] at this | exact this) GW633.out))) _).trans (((cell_far (p := ⟨gb633, _, none⟩) (by first | exact Nat.ne_of_lt (Nat.lt_of_lt_of_le (by have := World.block_lt_of_cell? _ _ hw632_4; first | rwa [add_block] at this | exact this) GW633.out) | (rw [add_block]; exact Nat.ne_of_lt (Nat.lt_of_lt_of_le (by have := World.block_lt_of_cell? _ _ hw632_4; first | rwa [add_block] at this | exact this) GW633.out)) | (show (Addr.add _ _).block ≠ _; rw [add_block]; exact Nat.ne_of_lt (Nat.lt_of_lt_of_le (by have := World.block_lt_of_cell? _ _ hw632_4; first | rwa [add_block] at this | exact this) GW633.out)) | (dsimp only; exact Nat.ne_of_lt (Nat.lt_of_lt_of_le (by have := World.block_lt_of_cell? _ _ hw632_4; first | rwa [add_block] at this | exact this) GW633.out))) _).trans (((cell_far (p := ⟨gb633, _, none⟩) (by first | exact Nat.ne_of_lt (Nat.lt_of_lt_of_le (by have := World.block_lt_of_cell? _ _ hw632_4; first | rwa [add_block] at this | exact this) GW633.out) | (rw [add_block]; exact Nat.ne_of_lt (Nat.lt_of_lt_of_le (by have := World.block_lt_of_cell? _ _ hw632_4; first | rwa [add_block] at this | exact this) GW633.out)) | (show (Addr.add _ _).block ≠ _; rw [add_block]; exact Nat.ne_of_lt (Nat.lt_of_lt_of_le (by have := World.block_lt_of_cell? _ _ hw632_4; first | rwa [add_block] at this | exact this) GW633.out)) | (dsimp only; exact Nat.ne_of_lt (Nat.lt_of_lt_of_le (by have := World.block_lt_of_cell? _ _ hw632_4; first | rwa [add_block] at this | exact this) GW633.out))) _).trans (((cell_far (p := ⟨gb633, _, none⟩) (by first | exact Nat.ne_of_lt (Nat.lt_of_lt_of_le (by have := World.block_lt_of_cell? _ _ hw632_4; first | rwa [add_block] at this | exact this) GW633.out) | (rw [add_block]; exact Nat.ne_of_lt (Nat.lt_of_lt_of_le (by have := World.block_lt_of_cell? _ _ hw632_4; first | rwa [add_block] at this | exact this) GW633.out)) | (show (Addr.add _ _).block ≠ _; rw [add_block]; exact Nat.ne_of_lt (Nat.lt_of_lt_of_le (by have := World.block_lt_of_cell? _ _ hw632_4; first | rwa [add_block] at this | exact this) GW633.out)) | (dsimp only; exact Nat.ne_of_lt (Nat.lt_of_lt_of_le (by have := World.block_lt_of_cell? _ _ hw632_4; first | rwa [add_block] at this | exact this) GW633.out))) _).trans (hHeld.2.2.2.2.2.2.2.2.2.2.2.2.2.1)))))))))))))), ((cell_far (p := ⟨gb633, _, none⟩) (by first | exact Nat.ne_of_lt (Nat.lt_of_lt_of_le (by have := World.block_lt_of_cell? _ _ hw632_5; first | rwa [add_block] at this | exact this) GW633.out) | (rw [add_block]; exact Nat.ne_of_lt (Nat.lt_of_lt_of_le (by have := World.block_lt_of_cell? _ _ hw632_5; first | rwa [add_block] at this | exact this) GW633.out)) | (show (Addr.add _ _).block ≠ _; rw [add_block]; exact Nat.ne_of_lt (Nat.lt_of_lt_of_le (by have := World.block_lt_of_cell? _ _ hw632_5; first | rwa [add_block] at this | exact this) GW633.out)) | (dsimp only; exact Nat.ne_of_lt (Nat.lt_of_lt_of_le (by have := World.block_lt_of_cell? _ _ hw632_5; first | rwa [add_block] at this | exact this) GW633.out))) _).trans (((cell_far (p := ⟨gb633, _, none⟩) (by first | exact Nat.ne_of_lt (Nat.lt_of_lt_of_le (by have := World.block_lt_of_cell? _ _ hw632_5; first | rwa [add_block] at this | exact this) GW633.out) | (rw [add_block]; exact Nat.ne_of_lt (Nat.lt_of_lt_of_le (by have := World.block_lt_of_cell? _ _ hw632_5; first | rwa [add_block] at this | exact this) GW633.out)) | (show (Addr.add _ _).block ≠ _; rw [add_block]; exact Nat.ne_of_lt (Nat.lt_of_lt_of_le (by have := World.block_lt_of_cell? _ _ hw632_5; first | rwa [add_block] at this | exact this) GW633.out)) | (dsimp only; exact Nat.ne_of_lt (Nat.lt_of_lt_of_le (by have := World.block_lt_of_cell? _ _ hw632_5; first | rwa [add_block] at this | exact this) GW633.out))) _).trans (((cell_far (p := ⟨gb633, _, none⟩) (by first | exact Nat.ne_of_lt (Nat.lt_of_lt_of_le (by have := World.block_lt_of_cell? _ _ hw632_5; first | rwa [add_block] at this | exact this) GW633.out) | (rw [add_block]; exact Nat.ne_of_lt (Nat.lt_of_lt_of_le (by have := World.block_lt_of_cell? _ _ hw632_5; first | rwa [add_block] at this | exact this) GW633.out)) | (show (Addr.add _ _).block ≠ _; rw [add_block]; exact Nat.ne_of_lt (Nat.lt_of_lt_of_le (by have := World.block_lt_of_cell? _ _ hw632_5; first | rwa [add_block] at this | exact this) GW633.out)) | (dsimp only; exact Nat.ne_of_lt (Nat.lt_of_lt_of_le (by have := World.block_lt_of_cell? _ _ hw632_5; first | rwa [add_block] at this | exact this) GW633.out))) _).trans (((cell_far (p := ⟨gb633, _, none⟩) (by first | exact Nat.ne_of_lt (Nat.lt_of_lt_of_le (by have := World.block_lt_of_cell? _ _ hw632_5; first | rwa [add_block] at this | exact this) GW633.out) | (rw [add_block]; exact Nat.ne_of_lt (Nat.lt_of_lt_of_le (by have := World.block_lt_of_cell? _ _ hw632_5; first | rwa [add_block] at this | exact this) GW633.out)) | (show (Addr.add _ _).block ≠ _; rw [add_block]; exact Nat.ne_of_lt (Nat.lt_of_lt_of_le (by have := World.block_lt_of_cell? _ _ hw632_5; first | rwa [add_block] at this | exact this) GW633.out)) | (dsimp only; exact Nat.ne_of_lt (Nat.lt_of_lt_of_le (by have := World.block_lt_of_cell? _ _ hw632_5; first | rwa [add_block] at this | exact this) GW633.out))) _).trans (((cell_far (p := ⟨gb633, _, none⟩) (by first | exact Nat.ne_of_lt (Nat.lt_of_lt_of_le (by have := World.block_lt_of_cell? _ _ hw632_5; first | rwa [add_block] at this | exact this) GW633.out) | (rw [add_block]; exact Nat.ne_of_lt (Nat.lt_of_lt_of_le (by have := World.block_lt_of_cell? _ _ hw632_5; first | rwa [add_block] at this | exact this) GW633.out)) | (show (Addr.add _ _).block ≠ _; rw [add_block]; exact Nat.ne_of_lt (Nat.lt_of_lt_of_le (by have := World.block_lt_of_cell? _ _ hw632_5; first | rwa [add_block] at this | exact this) GW633.out)) | (dsimp only; exact Nat.ne_of_lt (Nat.lt_of_lt_of_le (by have := World.block_lt_of_cell? _ _ hw632_5; first | rwa [add_block] at this | exact this) GW633.out))) _).trans (((cell_far (p := ⟨gb633, _, none⟩) (by first | exact Nat.ne_of_lt (Nat.lt_of_lt_of_le (by have := World.block_lt_of_cell? _ _ hw632_5; first | rwa [add_block] at this | exact this) GW633.out) | (rw [add_block]; exact Nat.ne_of_lt (Nat.lt_of_lt_of_le (by have := World.block_lt_of_cell? _ _ hw632_5; first | rwa [add_block] at this | exact this) GW633.out)) | (show (Addr.add _ _).block ≠ _; rw [add_block]; exact Nat.ne_of_lt (Nat.lt_of_lt_of_le (by have := World.block_lt_of_cell? _ _ hw632_5; first | rwa [add_block] at this | exact this) GW633.out)) | (dsimp only; exact Nat.ne_of_lt (Nat.lt_of_lt_of_le (by have := World.block_lt_of_cell? _ _ hw632_5; first | rwa [add_block] at this | exact this) GW633.out))) _).trans (((cell_far (p := ⟨gb633, _, none⟩) (by first | exact Nat.ne_of_lt (Nat.lt_of_lt_of_le (by have := World.block_lt_of_cell? _ _ hw632_5; first | rwa [add_block] at this | exact this) GW633.out) | (rw [add_block]; exact Nat.ne_of_lt (Nat.lt_of_lt_of_le (by have := World.block_lt_of_cell? _ _ hw632_5; first | rwa [add_block] at this | exact this) GW633.out)) | (show (Addr.add _ _).block ≠ _; rw [add_block]; exact Nat.ne_of_lt (Nat.lt_of_lt_of_le (by have := World.block_lt_of_cell? _ _ hw632_5; first | rwa [add_block] at this | exact this) GW633.out)) | (dsimp only; exact Nat.ne_of_lt (Nat.lt_of_lt_of_le (by have := World.block_lt_of_cell? _ _ hw632_5; first | rwa [add_block] at this | exact this) GW633.out))) _).trans (hHeld.2.2.2.2.2.2.2.2.2.2.2.2.2.2.1)))))))))))))), ((cell_far (p := ⟨gb633, _, none⟩) (by first | exact Nat.ne_of_lt (Nat.lt_of_lt_of_le (by have := World.block_lt_of_cell? _ _ hw632_6; first | rwa [add_block] at this | exact this) GW633.out) | (rw [add_block]; exact Nat.ne_of_lt (Nat.lt_of_lt_of_le (by have := World.block_lt_of_cell? _ _ hw632_6; first | rwa [add_block] at this | exact this) GW633.out)) | (show (Addr.add _ _).block ≠ _; rw [add_block]; exact Nat.ne_of_lt (Nat.lt_of_lt_of_le (by have := World.block_lt_of_cell? _ _ hw632_6; first | rwa [add_block] at this | exact this) GW633.out)) | (dsimp only; exact Nat.ne_of_lt (Nat.lt_of_lt_of_le (by have := World.block_lt_of_cell? _ _ hw632_6; first | rwa [add_block] at this | exact this) GW633.out))) _).trans (((cell_far (p := ⟨gb633, _, none⟩) (by first | exact Nat.ne_of_lt (Nat.lt_of_lt_of_le (by have := World.block_lt_of_cell? _ _ hw632_6; first | rwa [add_block] at this | exact this) GW633.out) | (rw [add_block]; exact Nat.ne_of_lt (Nat.lt_of_lt_of_le (by have := World.block_lt_of_cell? _ _ hw632_6; first | rwa [add_block] at this | exact this) GW633.out)) | (show (Addr.add _ _).block ≠ _; rw [add_block]; exact Nat.ne_of_lt (Nat.lt_of_lt_of_le (by have := World.block_lt_of_cell? _ _ hw632_6; first | rwa [add_block] at this | exact this) GW633.out)) | (dsimp only; exact Nat.ne_of_lt (Nat.lt_of_lt_of_le (by have := World.block_lt_of_cell? _ _ hw632_6; first | rwa [add_block] at this | exact this) GW633.out))) _).trans (((cell_far (p := ⟨gb633, _, none⟩) (by first | exact Nat.ne_of_lt (Nat.lt_of_lt_of_le (by have := World.block_lt_of_cell? _ _ hw632_6; first | rwa [add_block] at this | exact this) GW633.out) | (rw [add_block]; exact Nat.ne_of_lt (Nat.lt_of_lt_of_le (by have := World.block_lt_of_cell? _ _ hw632_6; first | rwa [add_block] at this | exact this) GW633.out)) | (show (Addr.add _ _).block ≠ _; rw [add_block]; exact Nat.ne_of_lt (Nat.lt_of_lt_of_le (by have := World.block_lt_of_cell? _ _ hw632_6; first | rwa [add_block] at this | exact this) GW633.out)) | (dsimp only; exact Nat.ne_of_lt (Nat.lt_of_lt_of_le (by have := World.block_lt_of_cell? _ _ hw632_6; first | rwa [add_block] at this | exact this) GW633.out))) _).trans (((cell_far (p := ⟨gb633, _, none⟩) (by first | exact Nat.ne_of_lt (Nat.lt_of_lt_of_le (by have := World.block_lt_of_cell? _ _ hw632_6; first | rwa [add_block] at this | exact this) GW633.out) | (rw [add_block]; exact Nat.ne_of_lt (Nat.lt_of_lt_of_le (by have := World.block_lt_of_cell? _ _ hw632_6; first | rwa [add_block] at this | exact this) GW633.out)) | (show (Addr.add _ _).block ≠ _; rw [add_block]; exact Nat.ne_of_lt (Nat.lt_of_lt_of_le (by have := World.block_lt_of_cell? _ _ hw632_6; first | rwa [add_block] at this | exact this) GW633.out)) | (dsimp only; exact Nat.ne_of_lt (Nat.lt_of_lt_of_le (by have := World.block_lt_of_cell? _ _ hw632_6; first | rwa [add_block] at this | exact this) GW633.out))) _).trans (((cell_far (p := ⟨gb633, _, none⟩) (by first | exact Nat.ne_of_lt (Nat.lt_of_lt_of_le (by have := World.block_lt_of_cell? _ _ hw632_6; first | rwa [add_block] at this | exact this) GW633.out) | (rw [add_block]; exact Nat.ne_of_lt (Nat.lt_of_lt_of_le (by have := World.block_lt_of_cell? _ _ hw632_6; first | rwa [add_block] at this | exact this) GW633.out)) | (show (Addr.add _ _).block ≠ _; rw [add_block]; exact Nat.ne_of_lt (Nat.lt_of_lt_of_le (by have := World.block_lt_of_cell? _ _ hw632_6; first | rwa [add_block] at this | exact this) GW633.out)) | (dsimp only; exact Nat.ne_of_lt (Nat.lt_of_lt_of_le (by have := World.block_lt_of_cell? _ _ hw632_6; first | rwa [add_block] at this | exact this) GW633.out))) _).trans (((cell_far (p := ⟨gb633, _, none⟩) (by first | exact Nat.ne_of_lt (Nat.lt_of_lt_of_le (by have := World.block_lt_of_cell? _ _ hw632_6; first | rwa [add_block] at this | exact this) GW633.out) | (rw [add_block]; exact Nat.ne_of_lt (Nat.lt_of_lt_of_le (by have := World.block_lt_of_cell? _ _ hw632_6; first | rwa [add_block] at this | exact this) GW633.out)) | (show (Addr.add _ _).block ≠ _; rw [add_block]; exact Nat.ne_of_lt (Nat.lt_of_lt_of_le (by have := World.block_lt_of_cell? _ _ hw632_6; first | rwa [add_block] at this | exact this) GW633.out)) | (dsimp only; exact Nat.ne_of_lt (Nat.lt_of_lt_of_le (by have := World.block_lt_of_cell? _ _ hw632_6; first | rwa [add_block] at this | exact this) GW633.out))) _).trans (((cell_far (p := ⟨gb633, _, none⟩) (by first | exact Nat.ne_of_lt (Nat.lt_of_lt_of_le (by have := World.block_lt_of_cell? _ _ hw632_6; first | rwa [add_block] at this | exact this) GW633.out) | (rw [add_block]; exact Nat.ne_of_lt (Nat.lt_of_lt_of_le (by have := World.block_lt_of_cell? _ _ hw632_6; first | rwa [add_block] at this | exact this) GW633.out)) | (show (Addr.add _ _).block ≠ _; rw [add_block]; exact Nat.ne_of_lt (Nat.lt_of_lt_of_le (by have := World.block_lt_of_cell? _ _ hw632_6; first | rwa [add_block] at this | exact this) GW633.out)) | (dsimp only; exact Nat.ne_of_lt (Nat.lt_of_lt_of_le (by have := World.block_lt_of_cell? _ _ hw632_6; first | rwa [add_block] at this | exact this) GW633.out))) _).trans (hHeld.2.2.2.2.2.2.2.2.2.2.2.2.2.2.2))))))))))))))⟩ (fun hHeld => ?_)
        clear hK K
        refine done_ (done_of HT_.out (by kernel_rfl)) ?_
        have hnb25 := NB633_625.out
        have hnc25 := NB625_633.out
        obtain ⟨hcz26_0, hcz26_1, hcz26_2, hcz26_3, hcz26_4, hcz26_5, hcz26_6, hfz26_0, hfz26_1, hfz26_2, hfz26_3, hfz26_4, hfz26_5, hfz26_6⟩ := blk7_ BK633.out
        try go_wp2
        have n0_ : Aside0 ((((((((w17.setCell ⟨gb633, 0, none⟩ (.int .i64 ((rd_T32 l0_6 (rd l1 x9_1)).f0))).setCell ⟨gb633, 1, none⟩ (.int .i64 ((rd_T32 l0_6 (rd l1 x9_1)).f1))).setCell ⟨gb633, 2, none⟩ (.int .i64 ((rd_T32 l0_6 (rd l1 x9_1)).f2))).setCell ⟨gb633, 3, none⟩ (.int .i64 ((rd_T32 l0_6 (rd l1 x9_1)).f3))).setCell ⟨gb633, 4, none⟩ (.int .i64 ((rd_T32 l0_6 (rd l1 x9_1)).f4))).setCell ⟨gb633, 5, none⟩ (.int .i64 ((rd_T32 l0_6 (rd l1 x9_1)).f5))).setCell ⟨gb633, 6, none⟩ (.int .i64 ((rd_T32 l0_6 (rd l1 x9_1)).f6))).heap[gb625]? = some (.cells #[.string a0_0, .int .i64 a0_1, .int .i64 a0_2, .int .i64 a0_3, .int .i64 a0_4, .int .i64 a0_5, .slice (some ad627) l0_6.length c0_6, .slice A0_7 l0_7.length c0_7] 25 (0, 0))) := ⟨by (with_reducible repeat (first | refine blk_drewN ?_ _ | refine blk_drew ?_ | refine blk_alloc ?_ _)); refine blk_far ?_ NB625_633.out _; (with_reducible repeat (first | refine blk_drewN ?_ _ | refine blk_drew ?_ | refine blk_alloc ?_ _)); refine blk_far ?_ NB625_633.out _; (with_reducible repeat (first | refine blk_drewN ?_ _ | refine blk_drew ?_ | refine blk_alloc ?_ _)); refine blk_far ?_ NB625_633.out _; (with_reducible repeat (first | refine blk_drewN ?_ _ | refine blk_drew ?_ | refine blk_alloc ?_ _)); refine blk_far ?_ NB625_633.out _; (with_reducible repeat (first | refine blk_drewN ?_ _ | refine blk_drew ?_ | refine blk_alloc ?_ _)); refine blk_far ?_ NB625_633.out _; (with_reducible repeat (first | refine blk_drewN ?_ _ | refine blk_drew ?_ | refine blk_alloc ?_ _)); refine blk_far ?_ NB625_633.out _; (with_reducible repeat (first | refine blk_drewN ?_ _ | refine blk_drew ?_ | refine blk_alloc ?_ _)); refine blk_far ?_ NB625_633.out _; (with_reducible repeat (first | refine blk_drewN ?_ _ | refine blk_drew ?_ | refine blk_alloc ?_ _)); exact BK625.out⟩
        have n1_ : Aside0 ((((((((w17.setCell ⟨gb633, 0, none⟩ (.int .i64 ((rd_T32 l0_6 (rd l1 x9_1)).f0))).setCell ⟨gb633, 1, none⟩ (.int .i64 ((rd_T32 l0_6 (rd l1 x9_1)).f1))).setCell ⟨gb633, 2, none⟩ (.int .i64 ((rd_T32 l0_6 (rd l1 x9_1)).f2))).setCell ⟨gb633, 3, none⟩ (.int .i64 ((rd_T32 l0_6 (rd l1 x9_1)).f3))).setCell ⟨gb633, 4, none⟩ (.int .i64 ((rd_T32 l0_6 (rd l1 x9_1)).f4))).setCell ⟨gb633, 5, none⟩ (.int .i64 ((rd_T32 l0_6 (rd l1 x9_1)).f5))).setCell ⟨gb633, 6, none⟩ (.int .i64 ((rd_T32 l0_6 (rd l1 x9_1)).f6))).heap[gb633]? = some (.cells #[.int .i64 ((rd_T32 l0_6 (rd l1 x9_1)).f0), .int .i64 ((rd_T32 l0_6 (rd l1 x9_1)).f1), .int .i64 ((rd_T32 l0_6 (rd l1 x9_1)).f2), .int .i64 ((rd_T32 l0_6 (rd l1 x9_1)).f3), .int .i64 ((rd_T32 l0_6 (rd l1 x9_1)).f4), .int .i64 ((rd_T32 l0_6 (rd l1 x9_1)).f5), .int .i64 ((rd_T32 l0_6 (rd l1 x9_1)).f6)] 32 (0, 0))) := ⟨by (with_reducible repeat (first | refine blk_drewN ?_ _ | refine blk_drew ?_ | refine blk_alloc ?_ _)); refine blk_put (cs := #[.int .i64 ((rd_T32 l0_6 (rd l1 x9_1)).f0), .int .i64 ((rd_T32 l0_6 (rd l1 x9_1)).f1), .int .i64 ((rd_T32 l0_6 (rd l1 x9_1)).f2), .int .i64 ((rd_T32 l0_6 (rd l1 x9_1)).f3), .int .i64 ((rd_T32 l0_6 (rd l1 x9_1)).f4), .int .i64 ((rd_T32 l0_6 (rd l1 x9_1)).f5), .int .i64 0]) ?_ 6 _ rfl; (with_reducible repeat (first | refine blk_drewN ?_ _ | refine blk_drew ?_ | refine blk_alloc ?_ _)); refine blk_put (cs := #[.int .i64 ((rd_T32 l0_6 (rd l1 x9_1)).f0), .int .i64 ((rd_T32 l0_6 (rd l1 x9_1)).f1), .int .i64 ((rd_T32 l0_6 (rd l1 x9_1)).f2), .int .i64 ((rd_T32 l0_6 (rd l1 x9_1)).f3), .int .i64 ((rd_T32 l0_6 (rd l1 x9_1)).f4), .int .i64 0, .int .i64 0]) ?_ 5 _ rfl; (with_reducible repeat (first | refine blk_drewN ?_ _ | refine blk_drew ?_ | refine blk_alloc ?_ _)); refine blk_put (cs := #[.int .i64 ((rd_T32 l0_6 (rd l1 x9_1)).f0), .int .i64 ((rd_T32 l0_6 (rd l1 x9_1)).f1), .int .i64 ((rd_T32 l0_6 (rd l1 x9_1)).f2), .int .i64 ((rd_T32 l0_6 (rd l1 x9_1)).f3), .int .i64 0, .int .i64 0, .int .i64 0]) ?_ 4 _ rfl; (with_reducible repeat (first | refine blk_drewN ?_ _ | refine blk_drew ?_ | refine blk_alloc ?_ _)); refine blk_put (cs := #[.int .i64 ((rd_T32 l0_6 (rd l1 x9_1)).f0), .int .i64 ((rd_T32 l0_6 (rd l1 x9_1)).f1), .int .i64 ((rd_T32 l0_6 (rd l1 x9_1)).f2), .int .i64 0, .int .i64 0, .int .i64 0, .int .i64 0]) ?_ 3 _ rfl; (with_reducible repeat (first | refine blk_drewN ?_ _ | refine blk_drew ?_ | refine blk_alloc ?_ _)); refine blk_put (cs := #[.int .i64 ((rd_T32 l0_6 (rd l1 x9_1)).f0), .int .i64 ((rd_T32 l0_6 (rd l1 x9_1)).f1), .int .i64 0, .int .i64 0, .int .i64 0, .int .i64 0, .int .i64 0]) ?_ 2 _ rfl; (with_reducible repeat (first | refine blk_drewN ?_ _ | refine blk_drew ?_ | refine blk_alloc ?_ _)); refine blk_put (cs := #[.int .i64 ((rd_T32 l0_6 (rd l1 x9_1)).f0), .int .i64 0, .int .i64 0, .int .i64 0, .int .i64 0, .int .i64 0, .int .i64 0]) ?_ 1 _ rfl; (with_reducible repeat (first | refine blk_drewN ?_ _ | refine blk_drew ?_ | refine blk_alloc ?_ _)); refine blk_put (cs := #[.int .i64 0, .int .i64 0, .int .i64 0, .int .i64 0, .int .i64 0, .int .i64 0, .int .i64 0]) ?_ 0 _ rfl; (with_reducible repeat (first | refine blk_drewN ?_ _ | refine blk_drew ?_ | refine blk_alloc ?_ _)); exact BK633.out⟩
        have n2_ : Aside0 (Below w.heap.size w (((((((w17.setCell ⟨gb633, 0, none⟩ (.int .i64 ((rd_T32 l0_6 (rd l1 x9_1)).f0))).setCell ⟨gb633, 1, none⟩ (.int .i64 ((rd_T32 l0_6 (rd l1 x9_1)).f1))).setCell ⟨gb633, 2, none⟩ (.int .i64 ((rd_T32 l0_6 (rd l1 x9_1)).f2))).setCell ⟨gb633, 3, none⟩ (.int .i64 ((rd_T32 l0_6 (rd l1 x9_1)).f3))).setCell ⟨gb633, 4, none⟩ (.int .i64 ((rd_T32 l0_6 (rd l1 x9_1)).f4))).setCell ⟨gb633, 5, none⟩ (.int .i64 ((rd_T32 l0_6 (rd l1 x9_1)).f5))).setCell ⟨gb633, 6, none⟩ (.int .i64 ((rd_T32 l0_6 (rd l1 x9_1)).f6)))) := ⟨by repeat (first | (with_reducible first | exact HB.out | apply below_alloc | apply pw_below_drewN | apply below_drew1 | refine below_set ?_ GE625.out | refine below_set ?_ GE633.out) | exact HB.out)⟩
        (try clear BK625)
        (try clear BK633)
        (try clear HB)
        generalize (((((((w17.setCell ⟨gb633, 0, none⟩ (.int .i64 ((rd_T32 l0_6 (rd l1 x9_1)).f0))).setCell ⟨gb633, 1, none⟩ (.int .i64 ((rd_T32 l0_6 (rd l1 x9_1)).f1))).setCell ⟨gb633, 2, none⟩ (.int .i64 ((rd_T32 l0_6 (rd l1 x9_1)).f2))).setCell ⟨gb633, 3, none⟩ (.int .i64 ((rd_T32 l0_6 (rd l1 x9_1)).f3))).setCell ⟨gb633, 4, none⟩ (.int .i64 ((rd_T32 l0_6 (rd l1 x9_1)).f4))).setCell ⟨gb633, 5, none⟩ (.int .i64 ((rd_T32 l0_6 (rd l1 x9_1)).f5))).setCell ⟨gb633, 6, none⟩ (.int .i64 ((rd_T32 l0_6 (rd l1 x9_1)).f6))) = w27 at n0_ n1_ n2_ ⊢
        have BK625 := n0_
        have BK633 := n1_
        have HB := n2_
        clear n0_ n1_ n2_
        have n0_ := Aside0.mk (blk_drew BK625.out)
        have n1_ := Aside0.mk (blk_drew BK633.out)
        have n2_ := Aside0.mk (below_drew1 HB.out)
        clear BK625
        clear BK633
        clear HB
        have BK625 := n0_
        have BK633 := n1_
        have HB := n2_
        clear n0_ n1_ n2_
        have p634 : 0 ≤ (x9_1 : Int) := of_decide_eq_true (by first | (with_reducible assumption) | assumption)
        have q634 : x9_1 < (l1.length : Int) := of_decide_eq_true (by first | (with_reducible assumption) | assumption)
        obtain ⟨ad634, e634, hx634_0⟩ := Kd.at_int HR1.out x9_1 p634 q634
        have hw634_0 := hx634_0
        obtain rfl : ad631 = ad634 := (by injection e634)
        replace hx634_0 := (HB.out.cell (World.block_lt_of_cell? w _ hx634_0)).trans hx634_0
        replace p634 := eq_true p634
        replace q634 := eq_true q634
        refine start_ (n := 12) (S := fun w' => w'.cell? ⟨gb625, 0, none⟩ = some (.string a0_0) ∧ w'.cell? ⟨gb625, 1, none⟩ = some (.int .i64 a0_1) ∧ w'.cell? ⟨gb625, 2, none⟩ = some (.int .i64 a0_2) ∧ w'.cell? ⟨gb625, 3, none⟩ = some (.int .i64 a0_3) ∧ w'.cell? ⟨gb625, 4, none⟩ = some (.int .i64 a0_4) ∧ w'.cell? ⟨gb625, 5, none⟩ = some (.int .i64 a0_5) ∧ w'.cell? ⟨gb625, 6, none⟩ = some (.slice (some ad627) l0_6.length c0_6) ∧ w'.cell? ⟨gb625, 7, none⟩ = some (.slice A0_7 l0_7.length c0_7) ∧ w'.cell? (ad631.add (x9_1).toNat) = some (.int .i64 (rd l1 x9_1))) (ds := []) #[false, false, false, false, false, false, false, false, false, false, false, false] (by kernel_rfl) rfl rfl ⟨(blk_cell BK625.out 0).trans rfl, (blk_cell BK625.out 1).trans rfl, (blk_cell BK625.out 2).trans rfl, (blk_cell BK625.out 3).trans rfl, (blk_cell BK625.out 4).trans rfl, (blk_cell BK625.out 5).trans rfl, (blk_cell BK625.out 6).trans rfl, (blk_cell BK625.out 7).trans rfl, ((HB.out.cell (World.block_lt_of_cell? w _ hw634_0)).trans hw634_0)⟩ (fun hHeld => ?_); refine with_tabW entrepotlaw11_goes.tab10 entrepotlaw11_goes.bits10 (fun HT_ HW_ => ?_)
        generalize w27.drew = w28 at BK625 BK633 HB hx634_0 hHeld ⊢
        refine pure_ (i := 1) (N := some 48) (v := ?_) (a' := ?_) #[false, true, false, false, false, false, false, false, false, false, false, false] rfl rfl (any_of HT_.out (by kernel_rfl)) (fun _ _ _ h => h) (Or.inl ⟨by rfl, ?_⟩) ?_ ?_
        rotate_left
        ·intro w'
         go_simp
         with_reducible rfl
        rotate_left
        ·simp only [Act.put, List.setIfInBounds_toArray, List.set_cons_zero, List.set_cons_succ, i64_w, i32_w]
         rfl
        refine pure_ (i := 2) (N := some 49) (v := ?_) (a' := ?_) #[false, true, true, false, false, false, false, false, false, false, false, false] rfl rfl (any_of HT_.out (by kernel_rfl)) (fun _ _ _ h => h) (Or.inl ⟨by rfl, ?_⟩) ?_ ?_
        rotate_left
        ·intro w'
         go_simp
         with_reducible rfl
        rotate_left
        ·simp only [Act.put, List.setIfInBounds_toArray, List.set_cons_zero, List.set_cons_succ, i64_w, i32_w]
         rfl
        refine pure_ (i := 3) (N := some 50) (v := ?_) (a' := ?_) #[false, true, true, true, false, false, false, false, false, false, false, false] rfl rfl (any_of HT_.out (by kernel_rfl)) (fun _ _ _ h => h) (Or.inl ⟨by rfl, ?_⟩) ?_ ?_
        rotate_left
        ·intro w'
         go_simp
         with_reducible rfl
        rotate_left
        ·simp only [Act.put, List.setIfInBounds_toArray, List.set_cons_zero, List.set_cons_succ, i64_w, i32_w]
         rfl
        refine pure_ (i := 4) (N := some 51) (v := ?_) (a' := ?_) #[false, true, true, true, true, false, false, false, false, false, false, false] rfl rfl (any_of HT_.out (by kernel_rfl)) (fun _ _ _ h => h) (Or.inl ⟨by rfl, ?_⟩) ?_ ?_
        rotate_left
        ·intro w'
         go_simp
         with_reducible rfl
        rotate_left
        ·simp only [Act.put, List.setIfInBounds_toArray, List.set_cons_zero, List.set_cons_succ, i64_w, i32_w]
         rfl
        refine take_ (i := 0) (N := some 47) (v := ?_) (a' := ?_) #[true, true, true, true, true, false, false, false, false, false, false, false] rfl rfl (take_ofW HT_.out HW_.out (by kernel_rfl)) (fun _ _ _ h => h) (Or.inl ⟨by rfl, ?_⟩) hHeld ?_ ?_
        rotate_left
        ·rintro w' ⟨s0, s1, s2, s3, s4, s5, s6, s7, s8⟩
         go_simp
         with_reducible rfl
        rotate_left
        ·simp only [Act.put, List.setIfInBounds_toArray, List.set_cons_zero, List.set_cons_succ, i64_w, i32_w]
         rfl
        refine take_ (i := 5) (N := some 52) (v := ?_) (a' := ?_) #[true, true, true, true, true, true, false, false, false, false, false, false] rfl rfl (take_ofW HT_.out HW_.out (by kernel_rfl)) (fun _ _ _ h => h) (Or.inl ⟨by rfl, ?_⟩) hHeld ?_ ?_
        rotate_left
        ·rintro w' ⟨s0, s1, s2, s3, s4, s5, s6, s7, s8⟩
         go_simp
         with_reducible rfl
        rotate_left
        ·simp only [Act.put, List.setIfInBounds_toArray, List.set_cons_zero, List.set_cons_succ, i64_w, i32_w]
         rfl
        refine one_ (i := 6) (N := some 53) #[true, true, true, true, true, true, true, false, false, false, false, false] rfl rfl (one_of HT_.out (by kernel_rfl)) (by decide) (fun K hK => ?_)
        refine goes_ Try.func47 (by kernel_rfl) rfl #[.agg #[.string a0_0, .int .i64 a0_1, .int .i64 a0_2, .int .i64 a0_3, .int .i64 a0_4, .int .i64 a0_5, .slice (some ad627) l0_6.length c0_6, .slice A0_7 l0_7.length c0_7], .int .i64 x8_1, .int .i64 (rd l1 x9_1)] (by rfl) rfl rfl (by (try simp only [List.map_toArray, List.map_cons, List.map_nil]); first | done | rfl | (simp only [List.length_drop, List.length_take]; rfl)) ?_
        with_reducible refine (cost_Between.calls k1 a0_0 a0_1 a0_2 a0_3 a0_4 a0_5 _ _ l0_6 _ _ l0_7 x8_1 (rd l1 x9_1) t635 t636 _ ?side1 ?side2 ?side3 ?side4 A13.out).mono ?_
        (case side1 => repeat (first | exact (Kd.C_below HR0_6.out HB.out) | (with_reducible refine Kd.C_alloc ?_ _) | (with_reducible refine Kd.C_drewN ?_ _) | (with_reducible refine Kd.C_drew ?_)))
        (case side2 => exact HC0_6.out)
        (case side3 => repeat (first | exact (Kd.C_below HR0_7.out HB.out) | (with_reducible refine Kd.C_alloc ?_ _) | (with_reducible refine Kd.C_drewN ?_ _) | (with_reducible refine Kd.C_drew ?_)))
        (case side4 => exact HC0_7.out)
        rintro e w29 ⟨rfl, hb⟩
        refine ⟨_, rfl, ?_⟩
        have n0_ := Aside0.mk (blk_below (g := gb625) (o := .cells #[.string a0_0, .int .i64 a0_1, .int .i64 a0_2, .int .i64 a0_3, .int .i64 a0_4, .int .i64 a0_5, .slice (some ad627) l0_6.length c0_6, .slice A0_7 l0_7.length c0_7] 25 (0, 0)) (by (with_reducible repeat (first | refine blk_drewN ?_ _ | refine blk_drew ?_ | refine blk_alloc ?_ _)); exact BK625.out) hb)
        have n1_ := Aside0.mk (blk_below (g := gb633) (o := .cells #[.int .i64 ((rd_T32 l0_6 (rd l1 x9_1)).f0), .int .i64 ((rd_T32 l0_6 (rd l1 x9_1)).f1), .int .i64 ((rd_T32 l0_6 (rd l1 x9_1)).f2), .int .i64 ((rd_T32 l0_6 (rd l1 x9_1)).f3), .int .i64 ((rd_T32 l0_6 (rd l1 x9_1)).f4), .int .i64 ((rd_T32 l0_6 (rd l1 x9_1)).f5), .int .i64 ((rd_T32 l0_6 (rd l1 x9_1)).f6)] 32 (0, 0)) (by (with_reducible repeat (first | refine blk_drewN ?_ _ | refine blk_drew ?_ | refine blk_alloc ?_ _)); exact BK633.out) hb)
        have n2_ := Aside0.mk (below_step (by repeat (first | (with_reducible first | exact HB.out | apply below_alloc | apply pw_below_drewN | apply below_drew1 | refine below_set ?_ GE625.out | refine below_set ?_ GE633.out) | exact HB.out)) hb)
        clear BK625
        clear BK633
        clear HB
        have BK625 := n0_
        have BK633 := n1_
        have HB := n2_
        clear n0_ n1_ n2_
        (try clear hb)
        (try clear hb2)
        (try clear hk)
        (try clear hi)
        refine hK.out _ _ ⟨(blk_cell BK625.out 0).trans rfl, (blk_cell BK625.out 1).trans rfl, (blk_cell BK625.out 2).trans rfl, (blk_cell BK625.out 3).trans rfl, (blk_cell BK625.out 4).trans rfl, (blk_cell BK625.out 5).trans rfl, (blk_cell BK625.out 6).trans rfl, (blk_cell BK625.out 7).trans rfl, ((HB.out.cell (World.block_lt_of_cell? w _ hw634_0)).trans hw634_0)⟩ (fun hHeld => ?_)
        clear hK K
        refine norm_ (a' := ?_) ?_ ?_
        rotate_left
        ·show Act.put _ (some 53) _ = _
         simp only [Act.put, List.setIfInBounds_toArray, List.set_cons_zero, List.set_cons_succ, i64_w, i32_w]
         rfl
        refine pure_ (i := 7) (N := some 46) (v := ?_) (a' := ?_) #[true, true, true, true, true, true, true, true, false, false, false, false] rfl rfl (any_of HT_.out (by kernel_rfl)) (fun _ _ _ h => h) (Or.inl ⟨by rfl, ?_⟩) ?_ ?_
        rotate_left
        ·intro w'
         go_simp
         with_reducible rfl
        rotate_left
        ·simp only [Act.put, List.setIfInBounds_toArray, List.set_cons_zero, List.set_cons_succ, i64_w, i32_w]
         rfl
        refine pure_ (i := 8) (N := some 54) (v := ?_) (a' := ?_) #[true, true, true, true, true, true, true, true, true, false, false, false] rfl rfl (any_of HT_.out (by kernel_rfl)) (fun _ _ _ h => h) (Or.inl ⟨by rfl, ?_⟩) ?_ ?_
        rotate_left
        ·intro w'
         go_simp
         with_reducible rfl
        rotate_left
        ·simp only [Act.put, List.setIfInBounds_toArray, List.set_cons_zero, List.set_cons_succ, i64_w, i32_w]
         rfl
        refine pure_ (i := 9) (N := some 55) (v := ?_) (a' := ?_) #[true, true, true, true, true, true, true, true, true, true, false, false] rfl rfl (any_of HT_.out (by kernel_rfl)) (fun _ _ _ h => h) (Or.inl ⟨by rfl, ?_⟩) ?_ ?_
        rotate_left
        ·intro w'
         go_simp
         with_reducible rfl
        rotate_left
        ·simp only [Act.put, List.setIfInBounds_toArray, List.set_cons_zero, List.set_cons_succ, i64_w, i32_w]
         rfl
        refine pure_ (i := 10) (N := some 11) (v := ?_) (a' := ?_) #[true, true, true, true, true, true, true, true, true, true, true, false] rfl rfl (any_of HT_.out (by kernel_rfl)) (fun _ _ _ h => h) (Or.inl ⟨by rfl, ?_⟩) ?_ ?_
        rotate_left
        ·intro w'
         go_simp
         with_reducible rfl
        rotate_left
        ·simp only [Act.put, List.setIfInBounds_toArray, List.set_cons_zero, List.set_cons_succ, i64_w, i32_w]
         rfl
        refine pure_ (i := 11) (N := some 12) (v := ?_) (a' := ?_) #[true, true, true, true, true, true, true, true, true, true, true, true] rfl rfl (any_of HT_.out (by kernel_rfl)) (fun _ _ _ h => h) (Or.inl ⟨by rfl, ?_⟩) ?_ ?_
        rotate_left
        ·intro w'
         go_simp
         with_reducible rfl
        rotate_left
        ·simp only [Act.put, List.setIfInBounds_toArray, List.set_cons_zero, List.set_cons_succ, i64_w, i32_w]
         rfl
        refine done_ (done_of HT_.out (by kernel_rfl)) ?_
        obtain ⟨hcz30_0, hcz30_1, hcz30_2, hcz30_3, hcz30_4, hcz30_5, hcz30_6, hfz30_0, hfz30_1, hfz30_2, hfz30_3, hfz30_4, hfz30_5, hfz30_6⟩ := blk7_ BK633.out
        go_upto_region 12 with (fail)
        go_cut [84] (fun v84 wc => ∃ (kq : Nat) (x84_14 : Bool), v84 = .bool x84_14 ∧ Aside0 (entrepotlaw11_goes.j1 kq l1 (wrap64 (x5_1 + ((rd_T32 l0_6 (rd l1 x9_1)).f2))) t626 ji14 x9_1 x84_14 a0_0 a0_1 a0_2 a0_3 a0_4 a0_5 l0_6 l0_7 ((rd_T32 l0_6 (rd l1 x9_1)).f0) ((rd_T32 l0_6 (rd l1 x9_1)).f1) ((rd_T32 l0_6 (rd l1 x9_1)).f2) ((rd_T32 l0_6 (rd l1 x9_1)).f3) ((rd_T32 l0_6 (rd l1 x9_1)).f4) ((rd_T32 l0_6 (rd l1 x9_1)).f5) ((rd_T32 l0_6 (rd l1 x9_1)).f6) = some r) ∧ Aside0 (kq ≤ k1) ∧ Aside0 (wc.heap[gb625]? = some (.cells #[.string a0_0, .int .i64 a0_1, .int .i64 a0_2, .int .i64 a0_3, .int .i64 a0_4, .int .i64 a0_5, (.slice (some ad627) l0_6.length c0_6), (.slice A0_7 l0_7.length c0_7)] 25 (0, 0))) ∧ Aside0 (wc.heap[gb633]? = some (.cells #[.int .i64 ((rd_T32 l0_6 (rd l1 x9_1)).f0), .int .i64 ((rd_T32 l0_6 (rd l1 x9_1)).f1), .int .i64 ((rd_T32 l0_6 (rd l1 x9_1)).f2), .int .i64 ((rd_T32 l0_6 (rd l1 x9_1)).f3), .int .i64 ((rd_T32 l0_6 (rd l1 x9_1)).f4), .int .i64 ((rd_T32 l0_6 (rd l1 x9_1)).f5), .int .i64 ((rd_T32 l0_6 (rd l1 x9_1)).f6)] 32 (0, 0))) ∧ Aside0 (Below w.heap.size w wc))
        case first => as_aux_lemma =>
         have H := HC15.out
         clear HC15
         by_cases c31 : (wrap64 (x5_1 + ((rd_T32 l0_6 (rd l1 x9_1)).f2))) < 0
         ·rw [if_pos c31] at H
          have c31b0 : decide ((wrap64 (x5_1 + ((rd_T32 l0_6 (rd l1 x9_1)).f2))) < 0) = true := decide_eq_true c31
          clear c31
          (first | rw [c31b0] | (simp only [i64_w, i32_w]; rw [c31b0]) | skip)
          have H' := Aside0.mk H
          clear H
          go_wp2
          go_meet
          case rel => exact ⟨_, (true), (by first | rfl | (simp; done) | (simp [*]; done)), H', ⟨by have := HK1.out; first | omega | exact Nat.le_refl _⟩, ⟨by (with_reducible repeat (first | refine blk_drewN ?_ _ | refine blk_drew ?_ | refine blk_alloc ?_ _)); exact BK625.out⟩, ⟨by (with_reducible repeat (first | refine blk_drewN ?_ _ | refine blk_drew ?_ | refine blk_alloc ?_ _)); exact BK633.out⟩, ⟨by repeat (first | (with_reducible first | exact HB.out | apply below_alloc | apply pw_below_drewN | apply below_drew1 | refine below_set ?_ GE625.out | refine below_set ?_ GE633.out) | exact HB.out)⟩⟩
         ·rw [if_neg c31] at H
          have c31b0 : decide ((wrap64 (x5_1 + ((rd_T32 l0_6 (rd l1 x9_1)).f2))) < 0) = false := decide_eq_false c31
          clear c31
          (first | rw [c31b0] | (simp only [i64_w, i32_w]; rw [c31b0]) | skip)
          by_cases c32 : (wrap64 (x5_1 + ((rd_T32 l0_6 (rd l1 x9_1)).f2))) > a0_4
          ·rw [if_pos c32] at H
           have c32b0 : decide (a0_4 < (wrap64 (x5_1 + ((rd_T32 l0_6 (rd l1 x9_1)).f2)))) = true := decide_eq_true c32
           clear c32
           have H' := Aside0.mk H
           clear H
           have hnb33 := NB625_633.out
           have hnc33 := NB633_625.out
           obtain ⟨hcz34_0, hcz34_1, hcz34_2, hcz34_3, hcz34_4, hcz34_5, hcz34_6, hcz34_7, hfz34_0, hfz34_1, hfz34_2, hfz34_3, hfz34_4, hfz34_5, hfz34_6, hfz34_7⟩ := blk8_ BK625.out
           go_wp2
           go_meet
           case rel => exact ⟨_, (true), (by first | rfl | (simp; done) | (simp [*]; done)), H', ⟨by have := HK1.out; first | omega | exact Nat.le_refl _⟩, ⟨by (with_reducible repeat (first | refine blk_drewN ?_ _ | refine blk_drew ?_ | refine blk_alloc ?_ _)); exact BK625.out⟩, ⟨by (with_reducible repeat (first | refine blk_drewN ?_ _ | refine blk_drew ?_ | refine blk_alloc ?_ _)); exact BK633.out⟩, ⟨by repeat (first | (with_reducible first | exact HB.out | apply below_alloc | apply pw_below_drewN | apply below_drew1 | refine below_set ?_ GE625.out | refine below_set ?_ GE633.out) | exact HB.out)⟩⟩
          ·rw [if_neg c32] at H
           have c32b0 : decide (a0_4 < (wrap64 (x5_1 + ((rd_T32 l0_6 (rd l1 x9_1)).f2)))) = false := decide_eq_false c32
           clear c32
           by_cases c35 : a0_1 = 2
           ·rw [if_pos c35] at H
            have c35b0 : (a0_1 == 2) = true := beq_iff_eq.mpr c35
            have c35b1 : (a0_1 != 2) = false := bne_eq_false_iff_eq.mpr c35
            clear c35
            have H' := Aside0.mk H
            clear H
            have hnb36 := NB625_633.out
            have hnc36 := NB633_625.out
            obtain ⟨hcz37_0, hcz37_1, hcz37_2, hcz37_3, hcz37_4, hcz37_5, hcz37_6, hcz37_7, hfz37_0, hfz37_1, hfz37_2, hfz37_3, hfz37_4, hfz37_5, hfz37_6, hfz37_7⟩ := blk8_ BK625.out
            go_wp2
            go_meet
            case rel => exact ⟨_, (false), (by first | rfl | (simp; done) | (simp [*]; done)), H', ⟨by have := HK1.out; first | omega | exact Nat.le_refl _⟩, ⟨by (with_reducible repeat (first | refine blk_drewN ?_ _ | refine blk_drew ?_ | refine blk_alloc ?_ _)); exact BK625.out⟩, ⟨by (with_reducible repeat (first | refine blk_drewN ?_ _ | refine blk_drew ?_ | refine blk_alloc ?_ _)); exact BK633.out⟩, ⟨by repeat (first | (with_reducible first | exact HB.out | apply below_alloc | apply pw_below_drewN | apply below_drew1 | refine below_set ?_ GE625.out | refine below_set ?_ GE633.out) | exact HB.out)⟩⟩
           ·rw [if_neg c35] at H
            have c35b0 : (a0_1 == 2) = false := beq_eq_false_iff_ne.mpr c35
            have c35b1 : (a0_1 != 2) = true := bne_iff_ne.mpr c35
            have H' := Aside0.mk H
            clear H
            have hnb38 := NB625_633.out
            have hnc38 := NB633_625.out
            obtain ⟨hcz39_0, hcz39_1, hcz39_2, hcz39_3, hcz39_4, hcz39_5, hcz39_6, hcz39_7, hfz39_0, hfz39_1, hfz39_2, hfz39_3, hfz39_4, hfz39_5, hfz39_6, hfz39_7⟩ := blk8_ BK625.out
            obtain ⟨hcz40_0, hcz40_1, hcz40_2, hcz40_3, hcz40_4, hcz40_5, hcz40_6, hfz40_0, hfz40_1, hfz40_2, hfz40_3, hfz40_4, hfz40_5, hfz40_6⟩ := blk7_ BK633.out
            go_wp2
            go_meet
            case rel => exact ⟨_, (decide ((ji14) > (wrap64 (t626 * ((rd_T32 l0_6 (rd l1 x9_1)).f4))))), (by first | rfl | (simp; done) | (simp only [← hji14] <;> (first | rfl | simp)) | (simp [*]; done)), H', ⟨by have := HK1.out; first | omega | exact Nat.le_refl _⟩, ⟨by (with_reducible repeat (first | refine blk_drewN ?_ _ | refine blk_drew ?_ | refine blk_alloc ?_ _)); exact BK625.out⟩, ⟨by (with_reducible repeat (first | refine blk_drewN ?_ _ | refine blk_drew ?_ | refine blk_alloc ?_ _)); exact BK633.out⟩, ⟨by repeat (first | (with_reducible first | exact HB.out | apply below_alloc | apply pw_below_drewN | apply below_drew1 | refine below_set ?_ GE625.out | refine below_set ?_ GE633.out) | exact HB.out)⟩⟩
        case rest => as_aux_lemma =>
         clear HC15
         (try clear c9); (try clear c9b0); (try clear c10); (try clear c10b0); (try clear c11); (try clear c11b0); (try clear c12); (try clear c12b0); (try clear hcz26_0); (try clear hcz26_1); (try clear hcz26_2); (try clear hcz26_3); (try clear hcz26_4); (try clear hcz26_5); (try clear hcz26_6); (try clear hcz30_0); (try clear hcz30_1); (try clear hcz30_2); (try clear hcz30_3); (try clear hcz30_4); (try clear hcz30_5); (try clear hcz30_6); (try clear hfz26_0); (try clear hfz26_1); (try clear hfz26_2); (try clear hfz26_3); (try clear hfz26_4); (try clear hfz26_5); (try clear hfz26_6); (try clear hfz30_0); (try clear hfz30_1); (try clear hfz30_2); (try clear hfz30_3); (try clear hfz30_4); (try clear hfz30_5); (try clear hfz30_6); (try clear hx631_0); (try clear hx632_0); (try clear hx632_1); (try clear hx632_2); (try clear hx632_3); (try clear hx632_4); (try clear hx632_5); (try clear hx632_6); (try clear hx634_0); (try clear p631); (try clear p632); (try clear p634); (try clear q631); (try clear q632); (try clear q634)
         obtain ⟨kq, x84_14, rfl, HA, HJ14, BK625, BK633, HB⟩ := hcut
         cases kq with
         | zero => exact absurd HA.out (by simp [entrepotlaw11_goes.j1])
         | succ kj14 =>
          have H := HA.out
          clear HA
          simp only [entrepotlaw11_goes.j1] at H
          by_cases c41 : x84_14 = true
          ·subst c41
           have H1 : (some false) = some r := by rw [if_pos rfl] at H; exact H
           clear H
           have H := H1
           clear H1
           obtain rfl := Option.some.inj H
           go_wp2
           go_ret
           exact ⟨by first | rfl | (simp [errW_none, errW_some] <;> rfl) | (simp only [← hji14]; first | rfl | (simp [errW_none, errW_some] <;> rfl)) | (simp [*, errW_none, errW_some] <;> rfl), by repeat (first | (with_reducible first | exact HB.out | apply below_alloc | apply pw_below_drewN | apply below_drew1 | refine below_set ?_ GE625.out | refine below_set ?_ GE633.out) | exact HB.out)⟩
          ·replace c41 := Bool.eq_false_iff.mpr c41
           subst c41
           have H1 : (if 0 ≤ x9_1 then (if x9_1 < (l1.length : Int) then (entrepotlaw11_goes.l1 kj14 l1 (wrap64 (x5_1 + ((rd_T32 l0_6 (rd l1 x9_1)).f2))) t626 (wrap64 (ji14 + (wrap64 (t626 * ((rd_T32 l0_6 (rd l1 x9_1)).f5))))) (rd l1 x9_1) x9_1 false 0 a0_0 a0_1 a0_2 a0_3 a0_4 a0_5 l0_6 l0_7 ((rd_T32 l0_6 (rd l1 x9_1)).f0) ((rd_T32 l0_6 (rd l1 x9_1)).f1) ((rd_T32 l0_6 (rd l1 x9_1)).f2) ((rd_T32 l0_6 (rd l1 x9_1)).f3) ((rd_T32 l0_6 (rd l1 x9_1)).f4) ((rd_T32 l0_6 (rd l1 x9_1)).f5) ((rd_T32 l0_6 (rd l1 x9_1)).f6)) else (none)) else (none)) = some r := by rw [if_neg (show ¬ (false = true) by decide)] at H; exact H
           clear H
           have H := H1
           clear H1
           by_cases c42 : 0 ≤ x9_1
           ·rw [if_pos c42] at H
            have c42b0 : decide (0 ≤ x9_1) = true := decide_eq_true c42
            clear c42
            by_cases c43 : x9_1 < (l1.length : Int)
            ·rw [if_pos c43] at H
             have c43b0 : decide (x9_1 < (l1.length : Int)) = true := decide_eq_true c43
             clear c43
             have H' := Aside0.mk H
             clear H
             have hnb44 := NB633_625.out
             have hnc44 := NB625_633.out
             obtain ⟨hcz45_0, hcz45_1, hcz45_2, hcz45_3, hcz45_4, hcz45_5, hcz45_6, hfz45_0, hfz45_1, hfz45_2, hfz45_3, hfz45_4, hfz45_5, hfz45_6⟩ := blk7_ BK633.out
             have p637 : 0 ≤ (x9_1 : Int) := of_decide_eq_true (by first | (with_reducible assumption) | assumption)
             have q637 : x9_1 < (l1.length : Int) := of_decide_eq_true (by first | (with_reducible assumption) | assumption)
             obtain ⟨ad637, e637, hx637_0⟩ := Kd.at_int HR1.out x9_1 p637 q637
             obtain rfl : ad631 = ad637 := (by injection e637)
             replace hx637_0 := (HB.out.cell (World.block_lt_of_cell? w _ hx637_0)).trans hx637_0
             replace p637 := eq_true p637
             replace q637 := eq_true q637
             go_wp2
             go_loopg [13, 14] kj14 (fun kq v13 v14 w' => ∃ (x13_3 : Bool) (x14_3 : Int), v13 = .bool x13_3 ∧ v14 = .int .i64 x14_3 ∧ Aside0 (entrepotlaw11_goes.l1 kq l1 (wrap64 (x5_1 + ((rd_T32 l0_6 (rd l1 x9_1)).f2))) t626 (wrap64 (ji14 + (wrap64 (t626 * ((rd_T32 l0_6 (rd l1 x9_1)).f5))))) (rd l1 x9_1) x9_1 x13_3 x14_3 a0_0 a0_1 a0_2 a0_3 a0_4 a0_5 l0_6 l0_7 ((rd_T32 l0_6 (rd l1 x9_1)).f0) ((rd_T32 l0_6 (rd l1 x9_1)).f1) ((rd_T32 l0_6 (rd l1 x9_1)).f2) ((rd_T32 l0_6 (rd l1 x9_1)).f3) ((rd_T32 l0_6 (rd l1 x9_1)).f4) ((rd_T32 l0_6 (rd l1 x9_1)).f5) ((rd_T32 l0_6 (rd l1 x9_1)).f6) = some r) ∧ Aside0 (kq ≤ kj14) ∧ Aside0 (w'.heap[gb625]? = some (.cells #[.string a0_0, .int .i64 a0_1, .int .i64 a0_2, .int .i64 a0_3, .int .i64 a0_4, .int .i64 a0_5, (.slice (some ad627) l0_6.length c0_6), (.slice A0_7 l0_7.length c0_7)] 25 (0, 0))) ∧ Aside0 (w'.heap[gb633]? = some (.cells #[.int .i64 ((rd_T32 l0_6 (rd l1 x9_1)).f0), .int .i64 ((rd_T32 l0_6 (rd l1 x9_1)).f1), .int .i64 ((rd_T32 l0_6 (rd l1 x9_1)).f2), .int .i64 ((rd_T32 l0_6 (rd l1 x9_1)).f3), .int .i64 ((rd_T32 l0_6 (rd l1 x9_1)).f4), .int .i64 ((rd_T32 l0_6 (rd l1 x9_1)).f5), .int .i64 ((rd_T32 l0_6 (rd l1 x9_1)).f6)] 32 (0, 0))) ∧ Aside0 (Below w.heap.size w w'))
             case atStart => exact ⟨(false), (0), (by first | rfl | (simp; done) | (simp [*]; done)), (by first | rfl | (simp; done) | (simp [*]; done)), H', ⟨Nat.le_refl _⟩, ⟨by (with_reducible repeat (first | refine blk_drewN ?_ _ | refine blk_drew ?_ | refine blk_alloc ?_ _)); exact BK625.out⟩, ⟨by (with_reducible repeat (first | refine blk_drewN ?_ _ | refine blk_drew ?_ | refine blk_alloc ?_ _)); exact BK633.out⟩, ⟨by repeat (first | (with_reducible first | exact HB.out | apply below_alloc | apply pw_below_drewN | apply below_drew1 | refine below_set ?_ GE625.out | refine below_set ?_ GE633.out) | exact HB.out)⟩⟩
             case round =>
              clear H'
              (try clear c41); (try clear c42); (try clear c42b0); (try clear c43); (try clear c43b0); (try clear hcz45_0); (try clear hcz45_1); (try clear hcz45_2); (try clear hcz45_3); (try clear hcz45_4); (try clear hcz45_5); (try clear hcz45_6); (try clear hfz45_0); (try clear hfz45_1); (try clear hfz45_2); (try clear hfz45_3); (try clear hfz45_4); (try clear hfz45_5); (try clear hfz45_6); (try clear hx637_0); (try clear p637); (try clear q637)
              obtain ⟨x13_3, x14_3, rfl, rfl, HA, HK3, BK625, BK633, HB⟩ := hrel
              cases gk with
              | zero => exact absurd HA.out (by simp [entrepotlaw11_goes.l1])
              | succ k3 =>
               have H := HA.out
               clear HA
               simp only [entrepotlaw11_goes.l1] at H
               by_cases c46 : x14_3 < x9_1
               ·rw [if_pos c46] at H
                have c46b0 : decide (x14_3 < x9_1) = true := decide_eq_true c46
                clear c46
                by_cases c47 : x13_3 = true
                ·subst c47
                 have H1 : (entrepotlaw11_goes.l1 k3 l1 (wrap64 (x5_1 + ((rd_T32 l0_6 (rd l1 x9_1)).f2))) t626 (wrap64 (ji14 + (wrap64 (t626 * ((rd_T32 l0_6 (rd l1 x9_1)).f5))))) (rd l1 x9_1) x9_1 true (wrap64 (x14_3 + 1)) a0_0 a0_1 a0_2 a0_3 a0_4 a0_5 l0_6 l0_7 ((rd_T32 l0_6 (rd l1 x9_1)).f0) ((rd_T32 l0_6 (rd l1 x9_1)).f1) ((rd_T32 l0_6 (rd l1 x9_1)).f2) ((rd_T32 l0_6 (rd l1 x9_1)).f3) ((rd_T32 l0_6 (rd l1 x9_1)).f4) ((rd_T32 l0_6 (rd l1 x9_1)).f5) ((rd_T32 l0_6 (rd l1 x9_1)).f6)) = some r := by rw [if_pos rfl] at H; exact H
                 clear H
                 have H := H1
                 clear H1
                 have H' := Aside0.mk H
                 clear H
                 try go_wp2
                 have n0_ := Aside0.mk (blk_drew BK625.out)
                 have n1_ := Aside0.mk (blk_drew BK633.out)
                 have n2_ := Aside0.mk (below_drew1 HB.out)
                 clear BK625
                 clear BK633
                 clear HB
                 have BK625 := n0_
                 have BK633 := n1_
                 have HB := n2_
                 clear n0_ n1_ n2_
                 refine start_ (n := 11) (S := fun w' => True) (ds := []) #[false, false, false, false, false, false, false, false, false, false, false] (by kernel_rfl) rfl rfl trivial (fun hHeld => ?_); refine with_tabW entrepotlaw11_goes.tab20 entrepotlaw11_goes.bits20 (fun HT_ HW_ => ?_)
                 generalize wr.drew = w48 at BK625 BK633 HB hHeld ⊢
                 refine pure_ (i := 0) (N := some 100) (v := ?_) (a' := ?_) #[true, false, false, false, false, false, false, false, false, false, false] rfl rfl (any_of HT_.out (by kernel_rfl)) (fun _ _ _ h => h) (Or.inl ⟨by rfl, ?_⟩) ?_ ?_
                 rotate_left
                 ·intro w'
                  go_simp
                  with_reducible rfl
                 rotate_left
                 ·simp only [Act.put, List.setIfInBounds_toArray, List.set_cons_zero, List.set_cons_succ, i64_w, i32_w]
                  rfl
                 refine pure_ (i := 1) (N := some 101) (v := ?_) (a' := ?_) #[true, true, false, false, false, false, false, false, false, false, false] rfl rfl (any_of HT_.out (by kernel_rfl)) (fun _ _ _ h => h) (Or.inl ⟨by rfl, ?_⟩) ?_ ?_
                 rotate_left
                 ·intro w'
                  go_simp
                  with_reducible rfl
                 rotate_left
                 ·simp only [Act.put, List.setIfInBounds_toArray, List.set_cons_zero, List.set_cons_succ, i64_w, i32_w]
                  rfl
                 refine pure_ (i := 2) (N := some 102) (v := undef) (a' := ?_) #[true, true, true, false, false, false, false, false, false, false, false] rfl rfl (any_of HT_.out (by kernel_rfl)) (fun _ _ _ h => h) (Or.inr ⟨by rfl, rfl⟩) ?_ ?_
                 rotate_left
                 ·simp only [Act.put, List.setIfInBounds_toArray, List.set_cons_zero, List.set_cons_succ, i64_w, i32_w]
                  rfl
                 refine pure_ (i := 3) (N := some 103) (v := undef) (a' := ?_) #[true, true, true, true, false, false, false, false, false, false, false] rfl rfl (any_of HT_.out (by kernel_rfl)) (fun _ _ _ h => h) (Or.inr ⟨by rfl, rfl⟩) ?_ ?_
                 rotate_left
                 ·simp only [Act.put, List.setIfInBounds_toArray, List.set_cons_zero, List.set_cons_succ, i64_w, i32_w]
                  rfl
                 refine pure_ (i := 4) (N := some 104) (v := undef) (a' := ?_) #[true, true, true, true, true, false, false, false, false, false, false] rfl rfl (any_of HT_.out (by kernel_rfl)) (fun _ _ _ h => h) (Or.inr ⟨by rfl, rfl⟩) ?_ ?_
                 rotate_left
                 ·simp only [Act.put, List.setIfInBounds_toArray, List.set_cons_zero, List.set_cons_succ, i64_w, i32_w]
                  rfl
                 refine pure_ (i := 5) (N := some 105) (v := undef) (a' := ?_) #[true, true, true, true, true, true, false, false, false, false, false] rfl rfl (any_of HT_.out (by kernel_rfl)) (fun _ _ _ h => h) (Or.inr ⟨by rfl, rfl⟩) ?_ ?_
                 rotate_left
                 ·simp only [Act.put, List.setIfInBounds_toArray, List.set_cons_zero, List.set_cons_succ, i64_w, i32_w]
                  rfl
                 refine pure_ (i := 6) (N := some 106) (v := undef) (a' := ?_) #[true, true, true, true, true, true, true, false, false, false, false] rfl rfl (any_of HT_.out (by kernel_rfl)) (fun _ _ _ h => h) (Or.inr ⟨by rfl, rfl⟩) ?_ ?_
                 rotate_left
                 ·simp only [Act.put, List.setIfInBounds_toArray, List.set_cons_zero, List.set_cons_succ, i64_w, i32_w]
                  rfl
                 refine pure_ (i := 7) (N := some 107) (v := undef) (a' := ?_) #[true, true, true, true, true, true, true, true, false, false, false] rfl rfl (any_of HT_.out (by kernel_rfl)) (fun _ _ _ h => h) (Or.inr ⟨by rfl, rfl⟩) ?_ ?_
                 rotate_left
                 ·simp only [Act.put, List.setIfInBounds_toArray, List.set_cons_zero, List.set_cons_succ, i64_w, i32_w]
                  rfl
                 refine pure_ (i := 8) (N := some 108) (v := undef) (a' := ?_) #[true, true, true, true, true, true, true, true, true, false, false] rfl rfl (any_of HT_.out (by kernel_rfl)) (fun _ _ _ h => h) (Or.inr ⟨by rfl, rfl⟩) ?_ ?_
                 rotate_left
                 ·simp only [Act.put, List.setIfInBounds_toArray, List.set_cons_zero, List.set_cons_succ, i64_w, i32_w]
                  rfl
                 refine pure_ (i := 9) (N := some 109) (v := ?_) (a' := ?_) #[true, true, true, true, true, true, true, true, true, true, false] rfl rfl (any_of HT_.out (by kernel_rfl)) (fun _ _ _ h => h) (Or.inl ⟨by rfl, ?_⟩) ?_ ?_
                 rotate_left
                 ·intro w'
                  go_simp
                  with_reducible rfl
                 rotate_left
                 ·simp only [Act.put, List.setIfInBounds_toArray, List.set_cons_zero, List.set_cons_succ, i64_w, i32_w]
                  rfl
                 refine pure_ (i := 10) (N := some 13) (v := ?_) (a' := ?_) #[true, true, true, true, true, true, true, true, true, true, true] rfl rfl (any_of HT_.out (by kernel_rfl)) (fun _ _ _ h => h) (Or.inl ⟨by rfl, ?_⟩) ?_ ?_
                 rotate_left
                 ·intro w'
                  go_simp
                  with_reducible rfl
                 rotate_left
                 ·simp only [Act.put, List.setIfInBounds_toArray, List.set_cons_zero, List.set_cons_succ, i64_w, i32_w]
                  rfl
                 refine done_ (done_of HT_.out (by kernel_rfl)) ?_
                 try go_wp2
                 go_roundg k3
                 case measure => have := HK1.out; have := HJ14.out; have := HK3.out; omega
                 case rel => exact ⟨(true), (wrap64 (x14_3 + 1)), (by first | rfl | (simp; done) | (simp [*]; done)), (by first | rfl | (simp; done) | (simp [*]; done)), H', ⟨by have := HK1.out; have := HJ14.out; have := HK3.out; omega⟩, ⟨by (with_reducible repeat (first | refine blk_drewN ?_ _ | refine blk_drew ?_ | refine blk_alloc ?_ _)); exact BK625.out⟩, ⟨by (with_reducible repeat (first | refine blk_drewN ?_ _ | refine blk_drew ?_ | refine blk_alloc ?_ _)); exact BK633.out⟩, ⟨by repeat (first | (with_reducible first | exact HB.out | apply below_alloc | apply pw_below_drewN | apply below_drew1 | refine below_set ?_ GE625.out | refine below_set ?_ GE633.out) | exact HB.out)⟩⟩
                ·replace c47 := Bool.eq_false_iff.mpr c47
                 subst c47
                 have H1 : (if 0 ≤ x14_3 then (if x14_3 < (l1.length : Int) then (entrepotlaw11_goes.l1 k3 l1 (wrap64 (x5_1 + ((rd_T32 l0_6 (rd l1 x9_1)).f2))) t626 (wrap64 (ji14 + (wrap64 (t626 * ((rd_T32 l0_6 (rd l1 x9_1)).f5))))) (rd l1 x9_1) x9_1 ((rd l1 x14_3) == ((rd_T32 l0_6 (rd l1 x9_1)).f6)) (wrap64 (x14_3 + 1)) a0_0 a0_1 a0_2 a0_3 a0_4 a0_5 l0_6 l0_7 ((rd_T32 l0_6 (rd l1 x9_1)).f0) ((rd_T32 l0_6 (rd l1 x9_1)).f1) ((rd_T32 l0_6 (rd l1 x9_1)).f2) ((rd_T32 l0_6 (rd l1 x9_1)).f3) ((rd_T32 l0_6 (rd l1 x9_1)).f4) ((rd_T32 l0_6 (rd l1 x9_1)).f5) ((rd_T32 l0_6 (rd l1 x9_1)).f6)) else (none)) else (none)) = some r := by rw [if_neg (show ¬ (false = true) by decide)] at H; exact H
                 clear H
                 have H := H1
                 clear H1
                 by_cases c49 : 0 ≤ x14_3
                 ·rw [if_pos c49] at H
                  have c49b0 : decide (0 ≤ x14_3) = true := decide_eq_true c49
                  clear c49
                  by_cases c50 : x14_3 < (l1.length : Int)
                  ·rw [if_pos c50] at H
                   have c50b0 : decide (x14_3 < (l1.length : Int)) = true := decide_eq_true c50
                   clear c50
                   have H' := Aside0.mk H
                   clear H
                   try go_wp2
                   have n0_ := Aside0.mk (blk_drew BK625.out)
                   have n1_ := Aside0.mk (blk_drew BK633.out)
                   have n2_ := Aside0.mk (below_drew1 HB.out)
                   clear BK625
                   clear BK633
                   clear HB
                   have BK625 := n0_
                   have BK633 := n1_
                   have HB := n2_
                   clear n0_ n1_ n2_
                   have p638 : 0 ≤ (x14_3 : Int) := of_decide_eq_true (by first | (with_reducible assumption) | assumption)
                   have q638 : x14_3 < (l1.length : Int) := of_decide_eq_true (by first | (with_reducible assumption) | assumption)
                   obtain ⟨ad638, e638, hx638_0⟩ := Kd.at_int HR1.out x14_3 p638 q638
                   have hw638_0 := hx638_0
                   obtain rfl : ad631 = ad638 := (by injection e638)
                   replace hx638_0 := (HB.out.cell (World.block_lt_of_cell? w _ hx638_0)).trans hx638_0
                   replace p638 := eq_true p638
                   replace q638 := eq_true q638
                   refine start_ (n := 11) (S := fun w' => w'.cell? ⟨gb633, 0, none⟩ = some (.int .i64 ((rd_T32 l0_6 (rd l1 x9_1)).f0)) ∧ w'.cell? ⟨gb633, 1, none⟩ = some (.int .i64 ((rd_T32 l0_6 (rd l1 x9_1)).f1)) ∧ w'.cell? ⟨gb633, 2, none⟩ = some (.int .i64 ((rd_T32 l0_6 (rd l1 x9_1)).f2)) ∧ w'.cell? ⟨gb633, 3, none⟩ = some (.int .i64 ((rd_T32 l0_6 (rd l1 x9_1)).f3)) ∧ w'.cell? ⟨gb633, 4, none⟩ = some (.int .i64 ((rd_T32 l0_6 (rd l1 x9_1)).f4)) ∧ w'.cell? ⟨gb633, 5, none⟩ = some (.int .i64 ((rd_T32 l0_6 (rd l1 x9_1)).f5)) ∧ w'.cell? ⟨gb633, 6, none⟩ = some (.int .i64 ((rd_T32 l0_6 (rd l1 x9_1)).f6)) ∧ w'.cell? (ad631.add (x14_3).toNat) = some (.int .i64 (rd l1 x14_3))) (ds := []) #[false, false, false, false, false, false, false, false, false, false, false] (by kernel_rfl) rfl rfl ⟨(blk_cell BK633.out 0).trans rfl, (blk_cell BK633.out 1).trans rfl, (blk_cell BK633.out 2).trans rfl, (blk_cell BK633.out 3).trans rfl, (blk_cell BK633.out 4).trans rfl, (blk_cell BK633.out 5).trans rfl, (blk_cell BK633.out 6).trans rfl, ((HB.out.cell (World.block_lt_of_cell? w _ hw638_0)).trans hw638_0)⟩ (fun hHeld => ?_); refine with_tabW entrepotlaw11_goes.tab20 entrepotlaw11_goes.bits20 (fun HT_ HW_ => ?_)
                   generalize wr.drew = w51 at BK625 BK633 HB hx638_0 hHeld ⊢
                   refine pure_ (i := 0) (N := some 100) (v := ?_) (a' := ?_) #[true, false, false, false, false, false, false, false, false, false, false] rfl rfl (any_of HT_.out (by kernel_rfl)) (fun _ _ _ h => h) (Or.inl ⟨by rfl, ?_⟩) ?_ ?_
                   rotate_left
                   ·intro w'
                    go_simp
                    with_reducible rfl
                   rotate_left
                   ·simp only [Act.put, List.setIfInBounds_toArray, List.set_cons_zero, List.set_cons_succ, i64_w, i32_w]
                    rfl
                   refine pure_ (i := 1) (N := some 101) (v := ?_) (a' := ?_) #[true, true, false, false, false, false, false, false, false, false, false] rfl rfl (any_of HT_.out (by kernel_rfl)) (fun _ _ _ h => h) (Or.inl ⟨by rfl, ?_⟩) ?_ ?_
                   rotate_left
                   ·intro w'
                    go_simp
                    with_reducible rfl
                   rotate_left
                   ·simp only [Act.put, List.setIfInBounds_toArray, List.set_cons_zero, List.set_cons_succ, i64_w, i32_w]
                    rfl
                   refine pure_ (i := 2) (N := some 102) (v := ?_) (a' := ?_) #[true, true, true, false, false, false, false, false, false, false, false] rfl rfl (any_of HT_.out (by kernel_rfl)) (fun _ _ _ h => h) (Or.inl ⟨by rfl, ?_⟩) ?_ ?_
                   rotate_left
                   ·intro w'
                    go_simp
                    with_reducible rfl
                   rotate_left
                   ·simp only [Act.put, List.setIfInBounds_toArray, List.set_cons_zero, List.set_cons_succ, i64_w, i32_w]
                    rfl
                   refine pure_ (i := 3) (N := some 103) (v := ?_) (a' := ?_) #[true, true, true, true, false, false, false, false, false, false, false] rfl rfl (any_of HT_.out (by kernel_rfl)) (fun _ _ _ h => h) (Or.inl ⟨by rfl, ?_⟩) ?_ ?_
                   rotate_left
                   ·intro w'
                    go_simp
                    with_reducible rfl
                   rotate_left
                   ·simp only [Act.put, List.setIfInBounds_toArray, List.set_cons_zero, List.set_cons_succ, i64_w, i32_w]
                    rfl
                   refine pure_ (i := 4) (N := some 104) (v := ?_) (a' := ?_) #[true, true, true, true, true, false, false, false, false, false, false] rfl rfl (any_of HT_.out (by kernel_rfl)) (fun _ _ _ h => h) (Or.inl ⟨by rfl, ?_⟩) ?_ ?_
                   rotate_left
                   ·intro w'
                    go_simp
                    with_reducible rfl
                   rotate_left
                   ·simp only [Act.put, List.setIfInBounds_toArray, List.set_cons_zero, List.set_cons_succ, i64_w, i32_w]
                    rfl
                   refine pure_ (i := 6) (N := some 106) (v := ?_) (a' := ?_) #[true, true, true, true, true, false, true, false, false, false, false] rfl rfl (any_of HT_.out (by kernel_rfl)) (fun _ _ _ h => h) (Or.inl ⟨by rfl, ?_⟩) ?_ ?_
                   rotate_left
                   ·intro w'
                    go_simp
                    with_reducible rfl
                   rotate_left
                   ·simp only [Act.put, List.setIfInBounds_toArray, List.set_cons_zero, List.set_cons_succ, i64_w, i32_w]
                    rfl
                   refine take_ (i := 5) (N := some 105) (v := ?_) (a' := ?_) #[true, true, true, true, true, true, true, false, false, false, false] rfl rfl (take_ofW HT_.out HW_.out (by kernel_rfl)) (fun _ _ _ h => h) (Or.inl ⟨by rfl, ?_⟩) hHeld ?_ ?_
                   rotate_left
                   ·rintro w' ⟨s0, s1, s2, s3, s4, s5, s6, s7⟩
                    go_simp
                    with_reducible rfl
                   rotate_left
                   ·simp only [Act.put, List.setIfInBounds_toArray, List.set_cons_zero, List.set_cons_succ, i64_w, i32_w]
                    rfl
                   refine take_ (i := 7) (N := some 107) (v := ?_) (a' := ?_) #[true, true, true, true, true, true, true, true, false, false, false] rfl rfl (take_ofW HT_.out HW_.out (by kernel_rfl)) (fun _ _ _ h => h) (Or.inl ⟨by rfl, ?_⟩) hHeld ?_ ?_
                   rotate_left
                   ·rintro w' ⟨s0, s1, s2, s3, s4, s5, s6, s7⟩
                    go_simp
                    with_reducible rfl
                   rotate_left
                   ·simp only [Act.put, List.setIfInBounds_toArray, List.set_cons_zero, List.set_cons_succ, i64_w, i32_w]
                    rfl
                   refine pure_ (i := 8) (N := some 108) (v := ?_) (a' := ?_) #[true, true, true, true, true, true, true, true, true, false, false] rfl rfl (any_of HT_.out (by kernel_rfl)) (fun _ _ _ h => h) (Or.inl ⟨by rfl, ?_⟩) ?_ ?_
                   rotate_left
                   ·intro w'
                    go_simp
                    with_reducible rfl
                   rotate_left
                   ·simp only [Act.put, List.setIfInBounds_toArray, List.set_cons_zero, List.set_cons_succ, i64_w, i32_w]
                    rfl
                   refine pure_ (i := 9) (N := some 109) (v := ?_) (a' := ?_) #[true, true, true, true, true, true, true, true, true, true, false] rfl rfl (any_of HT_.out (by kernel_rfl)) (fun _ _ _ h => h) (Or.inl ⟨by rfl, ?_⟩) ?_ ?_
                   rotate_left
                   ·intro w'
                    go_simp
                    with_reducible rfl
                   rotate_left
                   ·simp only [Act.put, List.setIfInBounds_toArray, List.set_cons_zero, List.set_cons_succ, i64_w, i32_w]
                    rfl
                   refine pure_ (i := 10) (N := some 13) (v := ?_) (a' := ?_) #[true, true, true, true, true, true, true, true, true, true, true] rfl rfl (any_of HT_.out (by kernel_rfl)) (fun _ _ _ h => h) (Or.inl ⟨by rfl, ?_⟩) ?_ ?_
                   rotate_left
                   ·intro w'
                    go_simp
                    with_reducible rfl
                   rotate_left
                   ·simp only [Act.put, List.setIfInBounds_toArray, List.set_cons_zero, List.set_cons_succ, i64_w, i32_w]
                    rfl
                   refine done_ (done_of HT_.out (by kernel_rfl)) ?_
                   try go_wp2
                   go_roundg k3
                   case measure => have := HK1.out; have := HJ14.out; have := HK3.out; omega
                   case rel => exact ⟨(((rd l1 x14_3) == ((rd_T32 l0_6 (rd l1 x9_1)).f6))), (wrap64 (x14_3 + 1)), (by first | rfl | (simp; done) | (simp [*]; done)), (by first | rfl | (simp; done) | (simp [*]; done)), H', ⟨by have := HK1.out; have := HJ14.out; have := HK3.out; omega⟩, ⟨by (with_reducible repeat (first | refine blk_drewN ?_ _ | refine blk_drew ?_ | refine blk_alloc ?_ _)); exact BK625.out⟩, ⟨by (with_reducible repeat (first | refine blk_drewN ?_ _ | refine blk_drew ?_ | refine blk_alloc ?_ _)); exact BK633.out⟩, ⟨by repeat (first | (with_reducible first | exact HB.out | apply below_alloc | apply pw_below_drewN | apply below_drew1 | refine below_set ?_ GE625.out | refine below_set ?_ GE633.out) | exact HB.out)⟩⟩
                  ·rw [if_neg c50] at H
                   exact absurd H (by simp)
                 ·rw [if_neg c49] at H
                  exact absurd H (by simp)
               ·rw [if_neg c46] at H
                have c46b0 : decide (x14_3 < x9_1) = false := decide_eq_false c46
                clear c46
                have H' := Aside0.mk H
                clear H
                go_wp2
                go_loopg [15, 16] k3 (fun kq v15 v16 w' => ∃ (x15_4 : Bool) (x16_4 : Int), v15 = .bool x15_4 ∧ v16 = .int .i64 x16_4 ∧ Aside0 (entrepotlaw11_goes.l2 kq l1 (wrap64 (x5_1 + ((rd_T32 l0_6 (rd l1 x9_1)).f2))) t626 (wrap64 (ji14 + (wrap64 (t626 * ((rd_T32 l0_6 (rd l1 x9_1)).f5))))) (rd l1 x9_1) x9_1 x13_3 x15_4 x16_4 a0_0 a0_1 a0_2 a0_3 a0_4 a0_5 l0_6 l0_7 ((rd_T32 l0_6 (rd l1 x9_1)).f0) ((rd_T32 l0_6 (rd l1 x9_1)).f1) ((rd_T32 l0_6 (rd l1 x9_1)).f2) ((rd_T32 l0_6 (rd l1 x9_1)).f3) ((rd_T32 l0_6 (rd l1 x9_1)).f4) ((rd_T32 l0_6 (rd l1 x9_1)).f5) ((rd_T32 l0_6 (rd l1 x9_1)).f6) = some r) ∧ Aside0 (kq ≤ k3) ∧ Aside0 (w'.heap[gb625]? = some (.cells #[.string a0_0, .int .i64 a0_1, .int .i64 a0_2, .int .i64 a0_3, .int .i64 a0_4, .int .i64 a0_5, (.slice (some ad627) l0_6.length c0_6), (.slice A0_7 l0_7.length c0_7)] 25 (0, 0))) ∧ Aside0 (w'.heap[gb633]? = some (.cells #[.int .i64 ((rd_T32 l0_6 (rd l1 x9_1)).f0), .int .i64 ((rd_T32 l0_6 (rd l1 x9_1)).f1), .int .i64 ((rd_T32 l0_6 (rd l1 x9_1)).f2), .int .i64 ((rd_T32 l0_6 (rd l1 x9_1)).f3), .int .i64 ((rd_T32 l0_6 (rd l1 x9_1)).f4), .int .i64 ((rd_T32 l0_6 (rd l1 x9_1)).f5), .int .i64 ((rd_T32 l0_6 (rd l1 x9_1)).f6)] 32 (0, 0))) ∧ Aside0 (Below w.heap.size w w'))
                case atStart => exact ⟨(false), (wrap64 (x9_1 + 1)), (by first | rfl | (simp; done) | (simp [*]; done)), (by first | rfl | (simp; done) | (simp [*]; done)), H', ⟨Nat.le_refl _⟩, ⟨by (with_reducible repeat (first | refine blk_drewN ?_ _ | refine blk_drew ?_ | refine blk_alloc ?_ _)); exact BK625.out⟩, ⟨by (with_reducible repeat (first | refine blk_drewN ?_ _ | refine blk_drew ?_ | refine blk_alloc ?_ _)); exact BK633.out⟩, ⟨by repeat (first | (with_reducible first | exact HB.out | apply below_alloc | apply pw_below_drewN | apply below_drew1 | refine below_set ?_ GE625.out | refine below_set ?_ GE633.out) | exact HB.out)⟩⟩
                case round =>
                 clear H'
                 (try clear c46); (try clear c46b0)
                 obtain ⟨x15_4, x16_4, rfl, rfl, HA, HK4, BK625, BK633, HB⟩ := hrel
                 cases gk with
                 | zero => exact absurd HA.out (by simp [entrepotlaw11_goes.l2])
                 | succ k4 =>
                  have H := HA.out
                  clear HA
                  simp only [entrepotlaw11_goes.l2] at H
                  by_cases c52 : x16_4 < (l1.length : Int)
                  ·rw [if_pos c52] at H
                   have c52b0 : decide (x16_4 < (l1.length : Int)) = true := decide_eq_true c52
                   clear c52
                   by_cases c53 : x15_4 = true
                   ·subst c53
                    have H1 : (entrepotlaw11_goes.l2 k4 l1 (wrap64 (x5_1 + ((rd_T32 l0_6 (rd l1 x9_1)).f2))) t626 (wrap64 (ji14 + (wrap64 (t626 * ((rd_T32 l0_6 (rd l1 x9_1)).f5))))) (rd l1 x9_1) x9_1 x13_3 true (wrap64 (x16_4 + 1)) a0_0 a0_1 a0_2 a0_3 a0_4 a0_5 l0_6 l0_7 ((rd_T32 l0_6 (rd l1 x9_1)).f0) ((rd_T32 l0_6 (rd l1 x9_1)).f1) ((rd_T32 l0_6 (rd l1 x9_1)).f2) ((rd_T32 l0_6 (rd l1 x9_1)).f3) ((rd_T32 l0_6 (rd l1 x9_1)).f4) ((rd_T32 l0_6 (rd l1 x9_1)).f5) ((rd_T32 l0_6 (rd l1 x9_1)).f6)) = some r := by rw [if_pos rfl] at H; exact H
                    clear H
                    have H := H1
                    clear H1
                    have H' := Aside0.mk H
                    clear H
                    try go_wp2
                    have n0_ := Aside0.mk (blk_drew BK625.out)
                    have n1_ := Aside0.mk (blk_drew BK633.out)
                    have n2_ := Aside0.mk (below_drew1 HB.out)
                    clear BK625
                    clear BK633
                    clear HB
                    have BK625 := n0_
                    have BK633 := n1_
                    have HB := n2_
                    clear n0_ n1_ n2_
                    refine start_ (n := 11) (S := fun w' => True) (ds := []) #[false, false, false, false, false, false, false, false, false, false, false] (by kernel_rfl) rfl rfl trivial (fun hHeld => ?_); refine with_tabW entrepotlaw11_goes.tab25 entrepotlaw11_goes.bits25 (fun HT_ HW_ => ?_)
                    generalize wr.drew = w54 at BK625 BK633 HB hHeld ⊢
                    refine pure_ (i := 0) (N := some 118) (v := ?_) (a' := ?_) #[true, false, false, false, false, false, false, false, false, false, false] rfl rfl (any_of HT_.out (by kernel_rfl)) (fun _ _ _ h => h) (Or.inl ⟨by rfl, ?_⟩) ?_ ?_
                    rotate_left
                    ·intro w'
                     go_simp
                     with_reducible rfl
                    rotate_left
                    ·simp only [Act.put, List.setIfInBounds_toArray, List.set_cons_zero, List.set_cons_succ, i64_w, i32_w]
                     rfl
                    refine pure_ (i := 1) (N := some 119) (v := ?_) (a' := ?_) #[true, true, false, false, false, false, false, false, false, false, false] rfl rfl (any_of HT_.out (by kernel_rfl)) (fun _ _ _ h => h) (Or.inl ⟨by rfl, ?_⟩) ?_ ?_
                    rotate_left
                    ·intro w'
                     go_simp
                     with_reducible rfl
                    rotate_left
                    ·simp only [Act.put, List.setIfInBounds_toArray, List.set_cons_zero, List.set_cons_succ, i64_w, i32_w]
                     rfl
                    refine pure_ (i := 2) (N := some 120) (v := undef) (a' := ?_) #[true, true, true, false, false, false, false, false, false, false, false] rfl rfl (any_of HT_.out (by kernel_rfl)) (fun _ _ _ h => h) (Or.inr ⟨by rfl, rfl⟩) ?_ ?_
                    rotate_left
                    ·simp only [Act.put, List.setIfInBounds_toArray, List.set_cons_zero, List.set_cons_succ, i64_w, i32_w]
                     rfl
                    refine pure_ (i := 3) (N := some 121) (v := undef) (a' := ?_) #[true, true, true, true, false, false, false, false, false, false, false] rfl rfl (any_of HT_.out (by kernel_rfl)) (fun _ _ _ h => h) (Or.inr ⟨by rfl, rfl⟩) ?_ ?_
                    rotate_left
                    ·simp only [Act.put, List.setIfInBounds_toArray, List.set_cons_zero, List.set_cons_succ, i64_w, i32_w]
                     rfl
                    refine pure_ (i := 4) (N := some 122) (v := undef) (a' := ?_) #[true, true, true, true, true, false, false, false, false, false, false] rfl rfl (any_of HT_.out (by kernel_rfl)) (fun _ _ _ h => h) (Or.inr ⟨by rfl, rfl⟩) ?_ ?_
                    rotate_left
                    ·simp only [Act.put, List.setIfInBounds_toArray, List.set_cons_zero, List.set_cons_succ, i64_w, i32_w]
                     rfl
                    refine pure_ (i := 5) (N := some 123) (v := undef) (a' := ?_) #[true, true, true, true, true, true, false, false, false, false, false] rfl rfl (any_of HT_.out (by kernel_rfl)) (fun _ _ _ h => h) (Or.inr ⟨by rfl, rfl⟩) ?_ ?_
                    rotate_left
                    ·simp only [Act.put, List.setIfInBounds_toArray, List.set_cons_zero, List.set_cons_succ, i64_w, i32_w]
                     rfl
                    refine pure_ (i := 6) (N := some 124) (v := undef) (a' := ?_) #[true, true, true, true, true, true, true, false, false, false, false] rfl rfl (any_of HT_.out (by kernel_rfl)) (fun _ _ _ h => h) (Or.inr ⟨by rfl, rfl⟩) ?_ ?_
                    rotate_left
                    ·simp only [Act.put, List.setIfInBounds_toArray, List.set_cons_zero, List.set_cons_succ, i64_w, i32_w]
                     rfl
                    refine pure_ (i := 7) (N := some 125) (v := undef) (a' := ?_) #[true, true, true, true, true, true, true, true, false, false, false] rfl rfl (any_of HT_.out (by kernel_rfl)) (fun _ _ _ h => h) (Or.inr ⟨by rfl, rfl⟩) ?_ ?_
                    rotate_left
                    ·simp only [Act.put, List.setIfInBounds_toArray, List.set_cons_zero, List.set_cons_succ, i64_w, i32_w]
                     rfl
                    refine pure_ (i := 8) (N := some 126) (v := undef) (a' := ?_) #[true, true, true, true, true, true, true, true, true, false, false] rfl rfl (any_of HT_.out (by kernel_rfl)) (fun _ _ _ h => h) (Or.inr ⟨by rfl, rfl⟩) ?_ ?_
                    rotate_left
                    ·simp only [Act.put, List.setIfInBounds_toArray, List.set_cons_zero, List.set_cons_succ, i64_w, i32_w]
                     rfl
                    refine pure_ (i := 9) (N := some 127) (v := ?_) (a' := ?_) #[true, true, true, true, true, true, true, true, true, true, false] rfl rfl (any_of HT_.out (by kernel_rfl)) (fun _ _ _ h => h) (Or.inl ⟨by rfl, ?_⟩) ?_ ?_
                    rotate_left
                    ·intro w'
                     go_simp
                     with_reducible rfl
                    rotate_left
                    ·simp only [Act.put, List.setIfInBounds_toArray, List.set_cons_zero, List.set_cons_succ, i64_w, i32_w]
                     rfl
                    refine pure_ (i := 10) (N := some 15) (v := ?_) (a' := ?_) #[true, true, true, true, true, true, true, true, true, true, true] rfl rfl (any_of HT_.out (by kernel_rfl)) (fun _ _ _ h => h) (Or.inl ⟨by rfl, ?_⟩) ?_ ?_
                    rotate_left
                    ·intro w'
                     go_simp
                     with_reducible rfl
                    rotate_left
                    ·simp only [Act.put, List.setIfInBounds_toArray, List.set_cons_zero, List.set_cons_succ, i64_w, i32_w]
                     rfl
                    refine done_ (done_of HT_.out (by kernel_rfl)) ?_
                    try go_wp2
                    go_roundg k4
                    case measure => have := HK1.out; have := HJ14.out; have := HK3.out; have := HK4.out; omega
                    case rel => exact ⟨(true), (wrap64 (x16_4 + 1)), (by first | rfl | (simp; done) | (simp [*]; done)), (by first | rfl | (simp; done) | (simp [*]; done)), H', ⟨by have := HK1.out; have := HJ14.out; have := HK3.out; have := HK4.out; omega⟩, ⟨by (with_reducible repeat (first | refine blk_drewN ?_ _ | refine blk_drew ?_ | refine blk_alloc ?_ _)); exact BK625.out⟩, ⟨by (with_reducible repeat (first | refine blk_drewN ?_ _ | refine blk_drew ?_ | refine blk_alloc ?_ _)); exact BK633.out⟩, ⟨by repeat (first | (with_reducible first | exact HB.out | apply below_alloc | apply pw_below_drewN | apply below_drew1 | refine below_set ?_ GE625.out | refine below_set ?_ GE633.out) | exact HB.out)⟩⟩
                   ·replace c53 := Bool.eq_false_iff.mpr c53
                    subst c53
                    have H1 : (if 0 ≤ x16_4 then (entrepotlaw11_goes.l2 k4 l1 (wrap64 (x5_1 + ((rd_T32 l0_6 (rd l1 x9_1)).f2))) t626 (wrap64 (ji14 + (wrap64 (t626 * ((rd_T32 l0_6 (rd l1 x9_1)).f5))))) (rd l1 x9_1) x9_1 x13_3 ((rd l1 x16_4) == ((rd_T32 l0_6 (rd l1 x9_1)).f6)) (wrap64 (x16_4 + 1)) a0_0 a0_1 a0_2 a0_3 a0_4 a0_5 l0_6 l0_7 ((rd_T32 l0_6 (rd l1 x9_1)).f0) ((rd_T32 l0_6 (rd l1 x9_1)).f1) ((rd_T32 l0_6 (rd l1 x9_1)).f2) ((rd_T32 l0_6 (rd l1 x9_1)).f3) ((rd_T32 l0_6 (rd l1 x9_1)).f4) ((rd_T32 l0_6 (rd l1 x9_1)).f5) ((rd_T32 l0_6 (rd l1 x9_1)).f6)) else (none)) = some r := by rw [if_neg (show ¬ (false = true) by decide)] at H; exact H
                    clear H
                    have H := H1
                    clear H1
                    by_cases c55 : 0 ≤ x16_4
                    ·rw [if_pos c55] at H
                     have c55b0 : decide (0 ≤ x16_4) = true := decide_eq_true c55
                     clear c55
                     have H' := Aside0.mk H
                     clear H
                     try go_wp2
                     have n0_ := Aside0.mk (blk_drew BK625.out)
                     have n1_ := Aside0.mk (blk_drew BK633.out)
                     have n2_ := Aside0.mk (below_drew1 HB.out)
                     clear BK625
                     clear BK633
                     clear HB
                     have BK625 := n0_
                     have BK633 := n1_
                     have HB := n2_
                     clear n0_ n1_ n2_
                     have p639 : 0 ≤ (x16_4 : Int) := of_decide_eq_true (by first | (with_reducible assumption) | assumption)
                     have q639 : x16_4 < (l1.length : Int) := of_decide_eq_true (by first | (with_reducible assumption) | assumption)
                     obtain ⟨ad639, e639, hx639_0⟩ := Kd.at_int HR1.out x16_4 p639 q639
                     have hw639_0 := hx639_0
                     obtain rfl : ad631 = ad639 := (by injection e639)
                     replace hx639_0 := (HB.out.cell (World.block_lt_of_cell? w _ hx639_0)).trans hx639_0
                     replace p639 := eq_true p639
                     replace q639 := eq_true q639
                     refine start_ (n := 11) (S := fun w' => w'.cell? ⟨gb633, 0, none⟩ = some (.int .i64 ((rd_T32 l0_6 (rd l1 x9_1)).f0)) ∧ w'.cell? ⟨gb633, 1, none⟩ = some (.int .i64 ((rd_T32 l0_6 (rd l1 x9_1)).f1)) ∧ w'.cell? ⟨gb633, 2, none⟩ = some (.int .i64 ((rd_T32 l0_6 (rd l1 x9_1)).f2)) ∧ w'.cell? ⟨gb633, 3, none⟩ = some (.int .i64 ((rd_T32 l0_6 (rd l1 x9_1)).f3)) ∧ w'.cell? ⟨gb633, 4, none⟩ = some (.int .i64 ((rd_T32 l0_6 (rd l1 x9_1)).f4)) ∧ w'.cell? ⟨gb633, 5, none⟩ = some (.int .i64 ((rd_T32 l0_6 (rd l1 x9_1)).f5)) ∧ w'.cell? ⟨gb633, 6, none⟩ = some (.int .i64 ((rd_T32 l0_6 (rd l1 x9_1)).f6)) ∧ w'.cell? (ad631.add (x16_4).toNat) = some (.int .i64 (rd l1 x16_4))) (ds := []) #[false, false, false, false, false, false, false, false, false, false, false] (by kernel_rfl) rfl rfl ⟨(blk_cell BK633.out 0).trans rfl, (blk_cell BK633.out 1).trans rfl, (blk_cell BK633.out 2).trans rfl, (blk_cell BK633.out 3).trans rfl, (blk_cell BK633.out 4).trans rfl, (blk_cell BK633.out 5).trans rfl, (blk_cell BK633.out 6).trans rfl, ((HB.out.cell (World.block_lt_of_cell? w _ hw639_0)).trans hw639_0)⟩ (fun hHeld => ?_); refine with_tabW entrepotlaw11_goes.tab25 entrepotlaw11_goes.bits25 (fun HT_ HW_ => ?_)
                     generalize wr.drew = w56 at BK625 BK633 HB hx639_0 hHeld ⊢
                     refine pure_ (i := 0) (N := some 118) (v := ?_) (a' := ?_) #[true, false, false, false, false, false, false, false, false, false, false] rfl rfl (any_of HT_.out (by kernel_rfl)) (fun _ _ _ h => h) (Or.inl ⟨by rfl, ?_⟩) ?_ ?_
                     rotate_left
                     ·intro w'
                      go_simp
                      with_reducible rfl
                     rotate_left
                     ·simp only [Act.put, List.setIfInBounds_toArray, List.set_cons_zero, List.set_cons_succ, i64_w, i32_w]
                      rfl
                     refine pure_ (i := 1) (N := some 119) (v := ?_) (a' := ?_) #[true, true, false, false, false, false, false, false, false, false, false] rfl rfl (any_of HT_.out (by kernel_rfl)) (fun _ _ _ h => h) (Or.inl ⟨by rfl, ?_⟩) ?_ ?_
                     rotate_left
                     ·intro w'
                      go_simp
                      with_reducible rfl
                     rotate_left
                     ·simp only [Act.put, List.setIfInBounds_toArray, List.set_cons_zero, List.set_cons_succ, i64_w, i32_w]
                      rfl
                     refine pure_ (i := 2) (N := some 120) (v := ?_) (a' := ?_) #[true, true, true, false, false, false, false, false, false, false, false] rfl rfl (any_of HT_.out (by kernel_rfl)) (fun _ _ _ h => h) (Or.inl ⟨by rfl, ?_⟩) ?_ ?_
                     rotate_left
                     ·intro w'
                      go_simp
                      with_reducible rfl
                     rotate_left
                     ·simp only [Act.put, List.setIfInBounds_toArray, List.set_cons_zero, List.set_cons_succ, i64_w, i32_w]
                      rfl
                     refine pure_ (i := 3) (N := some 121) (v := ?_) (a' := ?_) #[true, true, true, true, false, false, false, false, false, false, false] rfl rfl (any_of HT_.out (by kernel_rfl)) (fun _ _ _ h => h) (Or.inl ⟨by rfl, ?_⟩) ?_ ?_
                     rotate_left
                     ·intro w'
                      go_simp
                      with_reducible rfl
                     rotate_left
                     ·simp only [Act.put, List.setIfInBounds_toArray, List.set_cons_zero, List.set_cons_succ, i64_w, i32_w]
                      rfl
                     refine pure_ (i := 4) (N := some 122) (v := ?_) (a' := ?_) #[true, true, true, true, true, false, false, false, false, false, false] rfl rfl (any_of HT_.out (by kernel_rfl)) (fun _ _ _ h => h) (Or.inl ⟨by rfl, ?_⟩) ?_ ?_
                     rotate_left
                     ·intro w'
                      go_simp
                      with_reducible rfl
                     rotate_left
                     ·simp only [Act.put, List.setIfInBounds_toArray, List.set_cons_zero, List.set_cons_succ, i64_w, i32_w]
                      rfl
                     refine pure_ (i := 6) (N := some 124) (v := ?_) (a' := ?_) #[true, true, true, true, true, false, true, false, false, false, false] rfl rfl (any_of HT_.out (by kernel_rfl)) (fun _ _ _ h => h) (Or.inl ⟨by rfl, ?_⟩) ?_ ?_
                     rotate_left
                     ·intro w'
                      go_simp
                      with_reducible rfl
                     rotate_left
                     ·simp only [Act.put, List.setIfInBounds_toArray, List.set_cons_zero, List.set_cons_succ, i64_w, i32_w]
                      rfl
                     refine take_ (i := 5) (N := some 123) (v := ?_) (a' := ?_) #[true, true, true, true, true, true, true, false, false, false, false] rfl rfl (take_ofW HT_.out HW_.out (by kernel_rfl)) (fun _ _ _ h => h) (Or.inl ⟨by rfl, ?_⟩) hHeld ?_ ?_
                     rotate_left
                     ·rintro w' ⟨s0, s1, s2, s3, s4, s5, s6, s7⟩
                      go_simp
                      with_reducible rfl
                     rotate_left
                     ·simp only [Act.put, List.setIfInBounds_toArray, List.set_cons_zero, List.set_cons_succ, i64_w, i32_w]
                      rfl
                     refine take_ (i := 7) (N := some 125) (v := ?_) (a' := ?_) #[true, true, true, true, true, true, true, true, false, false, false] rfl rfl (take_ofW HT_.out HW_.out (by kernel_rfl)) (fun _ _ _ h => h) (Or.inl ⟨by rfl, ?_⟩) hHeld ?_ ?_
                     rotate_left
                     ·rintro w' ⟨s0, s1, s2, s3, s4, s5, s6, s7⟩
                      go_simp
                      with_reducible rfl
                     rotate_left
                     ·simp only [Act.put, List.setIfInBounds_toArray, List.set_cons_zero, List.set_cons_succ, i64_w, i32_w]
                      rfl
                     refine pure_ (i := 8) (N := some 126) (v := ?_) (a' := ?_) #[true, true, true, true, true, true, true, true, true, false, false] rfl rfl (any_of HT_.out (by kernel_rfl)) (fun _ _ _ h => h) (Or.inl ⟨by rfl, ?_⟩) ?_ ?_
                     rotate_left
                     ·intro w'
                      go_simp
                      with_reducible rfl
                     rotate_left
                     ·simp only [Act.put, List.setIfInBounds_toArray, List.set_cons_zero, List.set_cons_succ, i64_w, i32_w]
                      rfl
                     refine pure_ (i := 9) (N := some 127) (v := ?_) (a' := ?_) #[true, true, true, true, true, true, true, true, true, true, false] rfl rfl (any_of HT_.out (by kernel_rfl)) (fun _ _ _ h => h) (Or.inl ⟨by rfl, ?_⟩) ?_ ?_
                     rotate_left
                     ·intro w'
                      go_simp
                      with_reducible rfl
                     rotate_left
                     ·simp only [Act.put, List.setIfInBounds_toArray, List.set_cons_zero, List.set_cons_succ, i64_w, i32_w]
                      rfl
                     refine pure_ (i := 10) (N := some 15) (v := ?_) (a' := ?_) #[true, true, true, true, true, true, true, true, true, true, true] rfl rfl (any_of HT_.out (by kernel_rfl)) (fun _ _ _ h => h) (Or.inl ⟨by rfl, ?_⟩) ?_ ?_
                     rotate_left
                     ·intro w'
                      go_simp
                      with_reducible rfl
                     rotate_left
                     ·simp only [Act.put, List.setIfInBounds_toArray, List.set_cons_zero, List.set_cons_succ, i64_w, i32_w]
                      rfl
                     refine done_ (done_of HT_.out (by kernel_rfl)) ?_
                     try go_wp2
                     go_roundg k4
                     case measure => have := HK1.out; have := HJ14.out; have := HK3.out; have := HK4.out; omega
                     case rel => exact ⟨(((rd l1 x16_4) == ((rd_T32 l0_6 (rd l1 x9_1)).f6))), (wrap64 (x16_4 + 1)), (by first | rfl | (simp; done) | (simp [*]; done)), (by first | rfl | (simp; done) | (simp [*]; done)), H', ⟨by have := HK1.out; have := HJ14.out; have := HK3.out; have := HK4.out; omega⟩, ⟨by (with_reducible repeat (first | refine blk_drewN ?_ _ | refine blk_drew ?_ | refine blk_alloc ?_ _)); exact BK625.out⟩, ⟨by (with_reducible repeat (first | refine blk_drewN ?_ _ | refine blk_drew ?_ | refine blk_alloc ?_ _)); exact BK633.out⟩, ⟨by repeat (first | (with_reducible first | exact HB.out | apply below_alloc | apply pw_below_drewN | apply below_drew1 | refine below_set ?_ GE625.out | refine below_set ?_ GE633.out) | exact HB.out)⟩⟩
                    ·rw [if_neg c55] at H
                     exact absurd H (by simp)
                  ·rw [if_neg c52] at H
                   have c52b0 : decide (x16_4 < (l1.length : Int)) = false := decide_eq_false c52
                   clear c52
                   by_cases c57 : a0_1 = 4
                   ·rw [if_pos c57] at H
                    have c57b0 : (a0_1 == 4) = true := beq_iff_eq.mpr c57
                    have c57b1 : (a0_1 != 4) = false := bne_eq_false_iff_eq.mpr c57
                    clear c57
                    by_cases c58 : ((rd_T32 l0_6 (rd l1 x9_1)).f2) > 0
                    ·rw [if_pos c58] at H
                     have c58b0 : decide (0 < ((rd_T32 l0_6 (rd l1 x9_1)).f2)) = true := decide_eq_true c58
                     clear c58
                     by_cases c59 : x15_4 = true
                     ·subst c59
                      have H1 : (if ((rd_T32 l0_6 (rd l1 x9_1)).f2) < 0 then (if x13_3 = true then (entrepotlaw11_goes.l0 k4 l1 (wrap64 (x5_1 + ((rd_T32 l0_6 (rd l1 x9_1)).f2))) t626 (wrap64 (ji14 + (wrap64 (t626 * ((rd_T32 l0_6 (rd l1 x9_1)).f5))))) (rd l1 x9_1) (wrap64 (x9_1 + 1)) a0_0 a0_1 a0_2 a0_3 a0_4 a0_5 l0_6 l0_7) else (some false)) else (entrepotlaw11_goes.l0 k4 l1 (wrap64 (x5_1 + ((rd_T32 l0_6 (rd l1 x9_1)).f2))) t626 (wrap64 (ji14 + (wrap64 (t626 * ((rd_T32 l0_6 (rd l1 x9_1)).f5))))) (rd l1 x9_1) (wrap64 (x9_1 + 1)) a0_0 a0_1 a0_2 a0_3 a0_4 a0_5 l0_6 l0_7)) = some r := by rw [if_pos rfl] at H; exact H
                      clear H
                      have H := H1
                      clear H1
                      by_cases c60 : ((rd_T32 l0_6 (rd l1 x9_1)).f2) < 0
                      ·rw [if_pos c60] at H
                       have c60b0 : decide (((rd_T32 l0_6 (rd l1 x9_1)).f2) < 0) = true := decide_eq_true c60
                       clear c60
                       by_cases c61 : x13_3 = true
                       ·subst c61
                        have H1 : (entrepotlaw11_goes.l0 k4 l1 (wrap64 (x5_1 + ((rd_T32 l0_6 (rd l1 x9_1)).f2))) t626 (wrap64 (ji14 + (wrap64 (t626 * ((rd_T32 l0_6 (rd l1 x9_1)).f5))))) (rd l1 x9_1) (wrap64 (x9_1 + 1)) a0_0 a0_1 a0_2 a0_3 a0_4 a0_5 l0_6 l0_7) = some r := by rw [if_pos rfl] at H; exact H
                        clear H
                        have H := H1
                        clear H1
                        have H' := Aside0.mk H
                        clear H
                        have hnb62 := NB625_633.out
                        have hnc62 := NB633_625.out
                        obtain ⟨hcz63_0, hcz63_1, hcz63_2, hcz63_3, hcz63_4, hcz63_5, hcz63_6, hcz63_7, hfz63_0, hfz63_1, hfz63_2, hfz63_3, hfz63_4, hfz63_5, hfz63_6, hfz63_7⟩ := blk8_ BK625.out
                        obtain ⟨hcz64_0, hcz64_1, hcz64_2, hcz64_3, hcz64_4, hcz64_5, hcz64_6, hfz64_0, hfz64_1, hfz64_2, hfz64_3, hfz64_4, hfz64_5, hfz64_6⟩ := blk7_ BK633.out
                        go_wp2
                        go_roundg k4
                        case measure => have := HK1.out; have := HJ14.out; have := HK3.out; have := HK4.out; omega
                        case rel => exact ⟨((wrap64 (x5_1 + ((rd_T32 l0_6 (rd l1 x9_1)).f2)))), ((wrap64 (ji14 + (wrap64 (t626 * ((rd_T32 l0_6 (rd l1 x9_1)).f5)))))), ((rd l1 x9_1)), (wrap64 (x9_1 + 1)), (by first | rfl | (simp; done) | (simp [*]; done)), (by first | rfl | (simp; done) | (simp only [← hji14] <;> (first | rfl | simp)) | (simp [*]; done)), (by first | rfl | (simp; done) | (simp [*]; done)), (by first | rfl | (simp; done) | (simp [*]; done)), H', ⟨by have := HK1.out; have := HJ14.out; have := HK3.out; have := HK4.out; omega⟩, ⟨by (with_reducible repeat (first | refine blk_drewN ?_ _ | refine blk_drew ?_ | refine blk_alloc ?_ _)); exact BK625.out⟩, ⟨by repeat (first | (with_reducible first | exact HB.out | apply below_alloc | apply pw_below_drewN | apply below_drew1 | refine below_set ?_ GE625.out | refine below_set ?_ GE633.out) | exact HB.out)⟩⟩
                       ·replace c61 := Bool.eq_false_iff.mpr c61
                        subst c61
                        have H1 : (some false) = some r := by rw [if_neg (show ¬ (false = true) by decide)] at H; exact H
                        clear H
                        have H := H1
                        clear H1
                        obtain rfl := Option.some.inj H
                        have hnb65 := NB625_633.out
                        have hnc65 := NB633_625.out
                        obtain ⟨hcz66_0, hcz66_1, hcz66_2, hcz66_3, hcz66_4, hcz66_5, hcz66_6, hcz66_7, hfz66_0, hfz66_1, hfz66_2, hfz66_3, hfz66_4, hfz66_5, hfz66_6, hfz66_7⟩ := blk8_ BK625.out
                        obtain ⟨hcz67_0, hcz67_1, hcz67_2, hcz67_3, hcz67_4, hcz67_5, hcz67_6, hfz67_0, hfz67_1, hfz67_2, hfz67_3, hfz67_4, hfz67_5, hfz67_6⟩ := blk7_ BK633.out
                        go_wp2
                        go_ret
                        exact ⟨by first | rfl | (simp [errW_none, errW_some] <;> rfl) | (simp only [← hji14]; first | rfl | (simp [errW_none, errW_some] <;> rfl)) | (simp [*, errW_none, errW_some] <;> rfl), by repeat (first | (with_reducible first | exact HB.out | apply below_alloc | apply pw_below_drewN | apply below_drew1 | refine below_set ?_ GE625.out | refine below_set ?_ GE633.out) | exact HB.out)⟩
                      ·rw [if_neg c60] at H
                       have c60b0 : decide (((rd_T32 l0_6 (rd l1 x9_1)).f2) < 0) = false := decide_eq_false c60
                       clear c60
                       have H' := Aside0.mk H
                       clear H
                       have hnb68 := NB625_633.out
                       have hnc68 := NB633_625.out
                       obtain ⟨hcz69_0, hcz69_1, hcz69_2, hcz69_3, hcz69_4, hcz69_5, hcz69_6, hcz69_7, hfz69_0, hfz69_1, hfz69_2, hfz69_3, hfz69_4, hfz69_5, hfz69_6, hfz69_7⟩ := blk8_ BK625.out
                       obtain ⟨hcz70_0, hcz70_1, hcz70_2, hcz70_3, hcz70_4, hcz70_5, hcz70_6, hfz70_0, hfz70_1, hfz70_2, hfz70_3, hfz70_4, hfz70_5, hfz70_6⟩ := blk7_ BK633.out
                       go_wp2
                       go_roundg k4
                       case measure => have := HK1.out; have := HJ14.out; have := HK3.out; have := HK4.out; omega
                       case rel => exact ⟨((wrap64 (x5_1 + ((rd_T32 l0_6 (rd l1 x9_1)).f2)))), ((wrap64 (ji14 + (wrap64 (t626 * ((rd_T32 l0_6 (rd l1 x9_1)).f5)))))), ((rd l1 x9_1)), (wrap64 (x9_1 + 1)), (by first | rfl | (simp; done) | (simp [*]; done)), (by first | rfl | (simp; done) | (simp only [← hji14] <;> (first | rfl | simp)) | (simp [*]; done)), (by first | rfl | (simp; done) | (simp [*]; done)), (by first | rfl | (simp; done) | (simp [*]; done)), H', ⟨by have := HK1.out; have := HJ14.out; have := HK3.out; have := HK4.out; omega⟩, ⟨by (with_reducible repeat (first | refine blk_drewN ?_ _ | refine blk_drew ?_ | refine blk_alloc ?_ _)); exact BK625.out⟩, ⟨by repeat (first | (with_reducible first | exact HB.out | apply below_alloc | apply pw_below_drewN | apply below_drew1 | refine below_set ?_ GE625.out | refine below_set ?_ GE633.out) | exact HB.out)⟩⟩
                     ·replace c59 := Bool.eq_false_iff.mpr c59
                      subst c59
                      have H1 : (some false) = some r := by rw [if_neg (show ¬ (false = true) by decide)] at H; exact H
                      clear H
                      have H := H1
                      clear H1
                      obtain rfl := Option.some.inj H
                      have hnb71 := NB625_633.out
                      have hnc71 := NB633_625.out
                      obtain ⟨hcz72_0, hcz72_1, hcz72_2, hcz72_3, hcz72_4, hcz72_5, hcz72_6, hcz72_7, hfz72_0, hfz72_1, hfz72_2, hfz72_3, hfz72_4, hfz72_5, hfz72_6, hfz72_7⟩ := blk8_ BK625.out
                      obtain ⟨hcz73_0, hcz73_1, hcz73_2, hcz73_3, hcz73_4, hcz73_5, hcz73_6, hfz73_0, hfz73_1, hfz73_2, hfz73_3, hfz73_4, hfz73_5, hfz73_6⟩ := blk7_ BK633.out
                      go_wp2
                      go_ret
                      exact ⟨by first | rfl | (simp [errW_none, errW_some] <;> rfl) | (simp only [← hji14]; first | rfl | (simp [errW_none, errW_some] <;> rfl)) | (simp [*, errW_none, errW_some] <;> rfl), by repeat (first | (with_reducible first | exact HB.out | apply below_alloc | apply pw_below_drewN | apply below_drew1 | refine below_set ?_ GE625.out | refine below_set ?_ GE633.out) | exact HB.out)⟩
                    ·rw [if_neg c58] at H
                     have c58b0 : decide (0 < ((rd_T32 l0_6 (rd l1 x9_1)).f2)) = false := decide_eq_false c58
                     clear c58
                     by_cases c74 : ((rd_T32 l0_6 (rd l1 x9_1)).f2) < 0
                     ·rw [if_pos c74] at H
                      have c74b0 : decide (((rd_T32 l0_6 (rd l1 x9_1)).f2) < 0) = true := decide_eq_true c74
                      clear c74
                      by_cases c75 : x13_3 = true
                      ·subst c75
                       have H1 : (entrepotlaw11_goes.l0 k4 l1 (wrap64 (x5_1 + ((rd_T32 l0_6 (rd l1 x9_1)).f2))) t626 (wrap64 (ji14 + (wrap64 (t626 * ((rd_T32 l0_6 (rd l1 x9_1)).f5))))) (rd l1 x9_1) (wrap64 (x9_1 + 1)) a0_0 a0_1 a0_2 a0_3 a0_4 a0_5 l0_6 l0_7) = some r := by rw [if_pos rfl] at H; exact H
                       clear H
                       have H := H1
                       clear H1
                       have H' := Aside0.mk H
                       clear H
                       have hnb76 := NB625_633.out
                       have hnc76 := NB633_625.out
                       obtain ⟨hcz77_0, hcz77_1, hcz77_2, hcz77_3, hcz77_4, hcz77_5, hcz77_6, hcz77_7, hfz77_0, hfz77_1, hfz77_2, hfz77_3, hfz77_4, hfz77_5, hfz77_6, hfz77_7⟩ := blk8_ BK625.out
                       obtain ⟨hcz78_0, hcz78_1, hcz78_2, hcz78_3, hcz78_4, hcz78_5, hcz78_6, hfz78_0, hfz78_1, hfz78_2, hfz78_3, hfz78_4, hfz78_5, hfz78_6⟩ := blk7_ BK633.out
                       go_wp2
                       go_roundg k4
                       case measure => have := HK1.out; have := HJ14.out; have := HK3.out; have := HK4.out; omega
                       case rel => exact ⟨((wrap64 (x5_1 + ((rd_T32 l0_6 (rd l1 x9_1)).f2)))), ((wrap64 (ji14 + (wrap64 (t626 * ((rd_T32 l0_6 (rd l1 x9_1)).f5)))))), ((rd l1 x9_1)), (wrap64 (x9_1 + 1)), (by first | rfl | (simp; done) | (simp [*]; done)), (by first | rfl | (simp; done) | (simp only [← hji14] <;> (first | rfl | simp)) | (simp [*]; done)), (by first | rfl | (simp; done) | (simp [*]; done)), (by first | rfl | (simp; done) | (simp [*]; done)), H', ⟨by have := HK1.out; have := HJ14.out; have := HK3.out; have := HK4.out; omega⟩, ⟨by (with_reducible repeat (first | refine blk_drewN ?_ _ | refine blk_drew ?_ | refine blk_alloc ?_ _)); exact BK625.out⟩, ⟨by repeat (first | (with_reducible first | exact HB.out | apply below_alloc | apply pw_below_drewN | apply below_drew1 | refine below_set ?_ GE625.out | refine below_set ?_ GE633.out) | exact HB.out)⟩⟩
                      ·replace c75 := Bool.eq_false_iff.mpr c75
                       subst c75
                       have H1 : (some false) = some r := by rw [if_neg (show ¬ (false = true) by decide)] at H; exact H
                       clear H
                       have H := H1
                       clear H1
                       obtain rfl := Option.some.inj H
                       have hnb79 := NB625_633.out
                       have hnc79 := NB633_625.out
                       obtain ⟨hcz80_0, hcz80_1, hcz80_2, hcz80_3, hcz80_4, hcz80_5, hcz80_6, hcz80_7, hfz80_0, hfz80_1, hfz80_2, hfz80_3, hfz80_4, hfz80_5, hfz80_6, hfz80_7⟩ := blk8_ BK625.out
                       obtain ⟨hcz81_0, hcz81_1, hcz81_2, hcz81_3, hcz81_4, hcz81_5, hcz81_6, hfz81_0, hfz81_1, hfz81_2, hfz81_3, hfz81_4, hfz81_5, hfz81_6⟩ := blk7_ BK633.out
                       go_wp2
                       go_ret
                       exact ⟨by first | rfl | (simp [errW_none, errW_some] <;> rfl) | (simp only [← hji14]; first | rfl | (simp [errW_none, errW_some] <;> rfl)) | (simp [*, errW_none, errW_some] <;> rfl), by repeat (first | (with_reducible first | exact HB.out | apply below_alloc | apply pw_below_drewN | apply below_drew1 | refine below_set ?_ GE625.out | refine below_set ?_ GE633.out) | exact HB.out)⟩
                     ·rw [if_neg c74] at H
                      have c74b0 : decide (((rd_T32 l0_6 (rd l1 x9_1)).f2) < 0) = false := decide_eq_false c74
                      clear c74
                      have H' := Aside0.mk H
                      clear H
                      have hnb82 := NB625_633.out
                      have hnc82 := NB633_625.out
                      obtain ⟨hcz83_0, hcz83_1, hcz83_2, hcz83_3, hcz83_4, hcz83_5, hcz83_6, hcz83_7, hfz83_0, hfz83_1, hfz83_2, hfz83_3, hfz83_4, hfz83_5, hfz83_6, hfz83_7⟩ := blk8_ BK625.out
                      obtain ⟨hcz84_0, hcz84_1, hcz84_2, hcz84_3, hcz84_4, hcz84_5, hcz84_6, hfz84_0, hfz84_1, hfz84_2, hfz84_3, hfz84_4, hfz84_5, hfz84_6⟩ := blk7_ BK633.out
                      go_wp2
                      go_roundg k4
                      case measure => have := HK1.out; have := HJ14.out; have := HK3.out; have := HK4.out; omega
                      case rel => exact ⟨((wrap64 (x5_1 + ((rd_T32 l0_6 (rd l1 x9_1)).f2)))), ((wrap64 (ji14 + (wrap64 (t626 * ((rd_T32 l0_6 (rd l1 x9_1)).f5)))))), ((rd l1 x9_1)), (wrap64 (x9_1 + 1)), (by first | rfl | (simp; done) | (simp [*]; done)), (by first | rfl | (simp; done) | (simp only [← hji14] <;> (first | rfl | simp)) | (simp [*]; done)), (by first | rfl | (simp; done) | (simp [*]; done)), (by first | rfl | (simp; done) | (simp [*]; done)), H', ⟨by have := HK1.out; have := HJ14.out; have := HK3.out; have := HK4.out; omega⟩, ⟨by (with_reducible repeat (first | refine blk_drewN ?_ _ | refine blk_drew ?_ | refine blk_alloc ?_ _)); exact BK625.out⟩, ⟨by repeat (first | (with_reducible first | exact HB.out | apply below_alloc | apply pw_below_drewN | apply below_drew1 | refine below_set ?_ GE625.out | refine below_set ?_ GE633.out) | exact HB.out)⟩⟩
                   ·rw [if_neg c57] at H
                    have c57b0 : (a0_1 == 4) = false := beq_eq_false_iff_ne.mpr c57
                    have c57b1 : (a0_1 != 4) = true := bne_iff_ne.mpr c57
                    have H' := Aside0.mk H
                    clear H
                    have hnb85 := NB625_633.out
                    have hnc85 := NB633_625.out
                    obtain ⟨hcz86_0, hcz86_1, hcz86_2, hcz86_3, hcz86_4, hcz86_5, hcz86_6, hcz86_7, hfz86_0, hfz86_1, hfz86_2, hfz86_3, hfz86_4, hfz86_5, hfz86_6, hfz86_7⟩ := blk8_ BK625.out
                    go_wp2
                    go_roundg k4
                    case measure => have := HK1.out; have := HJ14.out; have := HK3.out; have := HK4.out; omega
                    case rel => exact ⟨((wrap64 (x5_1 + ((rd_T32 l0_6 (rd l1 x9_1)).f2)))), ((wrap64 (ji14 + (wrap64 (t626 * ((rd_T32 l0_6 (rd l1 x9_1)).f5)))))), ((rd l1 x9_1)), (wrap64 (x9_1 + 1)), (by first | rfl | (simp; done) | (simp [*]; done)), (by first | rfl | (simp; done) | (simp only [← hji14] <;> (first | rfl | simp)) | (simp [*]; done)), (by first | rfl | (simp; done) | (simp [*]; done)), (by first | rfl | (simp; done) | (simp [*]; done)), H', ⟨by have := HK1.out; have := HJ14.out; have := HK3.out; have := HK4.out; omega⟩, ⟨by (with_reducible repeat (first | refine blk_drewN ?_ _ | refine blk_drew ?_ | refine blk_alloc ?_ _)); exact BK625.out⟩, ⟨by repeat (first | (with_reducible first | exact HB.out | apply below_alloc | apply pw_below_drewN | apply below_drew1 | refine below_set ?_ GE625.out | refine below_set ?_ GE633.out) | exact HB.out)⟩⟩
            ·rw [if_neg c43] at H
             exact absurd H (by simp)
           ·rw [if_neg c42] at H
            exact absurd H (by simp)
       ·rw [if_neg c12] at H
        exact absurd H (by simp)
      ·rw [if_neg c11] at H
       exact absurd H (by simp)
     ·rw [if_neg c10] at H
      exact absurd H (by simp)
    ·rw [if_neg c9] at H
     have c9b0 : decide (x9_1 < (l1.length : Int)) = false := decide_eq_false c9
     clear c9
     replace H := Option.bind_eq_some_iff.mp H
     obtain ⟨⟨t628, t629⟩, A870, H⟩ := H
     replace H : (if a0_1 = 2 then (some true) else (if (l1.length : Int) = 0 then (some true) else (if 0 < (l0_6.length : Int) then (some (decide ((wrap64 (x7_1 + t628)) ≤ (wrap64 (t626 * ((rd_T32 l0_6 0).f4)))))) else (none)))) = some r := H
     have A87 := Aside0.mk A870
     clear A870
     by_cases c88 : a0_1 = 2
     ·rw [if_pos c88] at H
      have c88b0 : (a0_1 == 2) = true := beq_iff_eq.mpr c88
      have c88b1 : (a0_1 != 2) = false := bne_eq_false_iff_eq.mpr c88
      clear c88
      obtain rfl := Option.some.inj H
      obtain ⟨hcz89_0, hcz89_1, hcz89_2, hcz89_3, hcz89_4, hcz89_5, hcz89_6, hcz89_7, hfz89_0, hfz89_1, hfz89_2, hfz89_3, hfz89_4, hfz89_5, hfz89_6, hfz89_7⟩ := blk8_ BK625.out
      go_wp2_with (first | ((with_reducible refine gate_callee (f := 47) rfl ?_); refine goesL_ (some 152) rfl rfl Try.func47 (by kernel_rfl) rfl #[.agg #[.string a0_0, .int .i64 a0_1, .int .i64 a0_2, .int .i64 a0_3, .int .i64 a0_4, .int .i64 a0_5, .slice (some ad627) l0_6.length c0_6, .slice A0_7 l0_7.length c0_7], .int .i64 x8_1, .int .i64 0] rfl (by (try simp only [List.map_toArray, List.map_cons, List.map_nil]); first | done | rfl | (simp only [List.length_drop, List.length_take]; rfl)) ?_; (with_reducible refine (cost_Between.calls k1 a0_0 a0_1 a0_2 a0_3 a0_4 a0_5 _ _ l0_6 _ _ l0_7 x8_1 0 t628 t629 _ ?side1 ?side2 ?side3 ?side4 A87.out).mono ?_); (case side1 => repeat (first | exact (Kd.C_below HR0_6.out HB.out) | (with_reducible refine Kd.C_alloc ?_ _) | (with_reducible refine Kd.C_drewN ?_ _) | (with_reducible refine Kd.C_drew ?_))); (case side2 => exact HC0_6.out); (case side3 => repeat (first | exact (Kd.C_below HR0_7.out HB.out) | (with_reducible refine Kd.C_alloc ?_ _) | (with_reducible refine Kd.C_drewN ?_ _) | (with_reducible refine Kd.C_drew ?_))); (case side4 => exact HC0_7.out); rintro e w90 ⟨rfl, hb⟩; refine ⟨_, rfl, ?_⟩; have n0_ := Aside0.mk (blk_below (g := gb625) (o := .cells #[.string a0_0, .int .i64 a0_1, .int .i64 a0_2, .int .i64 a0_3, .int .i64 a0_4, .int .i64 a0_5, .slice (some ad627) l0_6.length c0_6, .slice A0_7 l0_7.length c0_7] 25 (0, 0)) (by (with_reducible repeat (first | refine blk_drewN ?_ _ | refine blk_drew ?_ | refine blk_alloc ?_ _)); exact BK625.out) hb); have n1_ := Aside0.mk (below_step (by repeat (first | (with_reducible first | exact HB.out | apply below_alloc | apply pw_below_drewN | apply below_drew1 | refine below_set ?_ GE625.out) | exact HB.out)) hb); clear BK625; clear HB; have BK625 := n0_; have HB := n1_; clear n0_ n1_; (try clear hb); (try clear hb2); (try clear hk); (try clear hi); obtain ⟨hcz91_0, hcz91_1, hcz91_2, hcz91_3, hcz91_4, hcz91_5, hcz91_6, hcz91_7, hfz91_0, hfz91_1, hfz91_2, hfz91_3, hfz91_4, hfz91_5, hfz91_6, hfz91_7⟩ := blk8_ BK625.out))
      go_ret
      exact ⟨by first | rfl | (simp [errW_none, errW_some] <;> rfl) | (simp [*, errW_none, errW_some] <;> rfl), by repeat (first | (with_reducible first | exact HB.out | apply below_alloc | apply pw_below_drewN | apply below_drew1 | refine below_set ?_ GE625.out) | exact HB.out)⟩
     ·rw [if_neg c88] at H
      have c88b0 : (a0_1 == 2) = false := beq_eq_false_iff_ne.mpr c88
      have c88b1 : (a0_1 != 2) = true := bne_iff_ne.mpr c88
      by_cases c92 : (l1.length : Int) = 0
      ·rw [if_pos c92] at H
       have c92b0 : ((l1.length : Int) == 0) = true := beq_iff_eq.mpr c92
       have c92b1 : ((l1.length : Int) != 0) = false := bne_eq_false_iff_eq.mpr c92
       clear c92
       obtain rfl := Option.some.inj H
       obtain ⟨hcz93_0, hcz93_1, hcz93_2, hcz93_3, hcz93_4, hcz93_5, hcz93_6, hcz93_7, hfz93_0, hfz93_1, hfz93_2, hfz93_3, hfz93_4, hfz93_5, hfz93_6, hfz93_7⟩ := blk8_ BK625.out
       go_wp2_with (first | ((with_reducible refine gate_callee (f := 47) rfl ?_); refine goesL_ (some 152) rfl rfl Try.func47 (by kernel_rfl) rfl #[.agg #[.string a0_0, .int .i64 a0_1, .int .i64 a0_2, .int .i64 a0_3, .int .i64 a0_4, .int .i64 a0_5, .slice (some ad627) l0_6.length c0_6, .slice A0_7 l0_7.length c0_7], .int .i64 x8_1, .int .i64 0] rfl (by (try simp only [List.map_toArray, List.map_cons, List.map_nil]); first | done | rfl | (simp only [List.length_drop, List.length_take]; rfl)) ?_; (with_reducible refine (cost_Between.calls k1 a0_0 a0_1 a0_2 a0_3 a0_4 a0_5 _ _ l0_6 _ _ l0_7 x8_1 0 t628 t629 _ ?side1 ?side2 ?side3 ?side4 A87.out).mono ?_); (case side1 => repeat (first | exact (Kd.C_below HR0_6.out HB.out) | (with_reducible refine Kd.C_alloc ?_ _) | (with_reducible refine Kd.C_drewN ?_ _) | (with_reducible refine Kd.C_drew ?_))); (case side2 => exact HC0_6.out); (case side3 => repeat (first | exact (Kd.C_below HR0_7.out HB.out) | (with_reducible refine Kd.C_alloc ?_ _) | (with_reducible refine Kd.C_drewN ?_ _) | (with_reducible refine Kd.C_drew ?_))); (case side4 => exact HC0_7.out); rintro e w94 ⟨rfl, hb⟩; refine ⟨_, rfl, ?_⟩; have n0_ := Aside0.mk (blk_below (g := gb625) (o := .cells #[.string a0_0, .int .i64 a0_1, .int .i64 a0_2, .int .i64 a0_3, .int .i64 a0_4, .int .i64 a0_5, .slice (some ad627) l0_6.length c0_6, .slice A0_7 l0_7.length c0_7] 25 (0, 0)) (by (with_reducible repeat (first | refine blk_drewN ?_ _ | refine blk_drew ?_ | refine blk_alloc ?_ _)); exact BK625.out) hb); have n1_ := Aside0.mk (below_step (by repeat (first | (with_reducible first | exact HB.out | apply below_alloc | apply pw_below_drewN | apply below_drew1 | refine below_set ?_ GE625.out) | exact HB.out)) hb); clear BK625; clear HB; have BK625 := n0_; have HB := n1_; clear n0_ n1_; (try clear hb); (try clear hb2); (try clear hk); (try clear hi); obtain ⟨hcz95_0, hcz95_1, hcz95_2, hcz95_3, hcz95_4, hcz95_5, hcz95_6, hcz95_7, hfz95_0, hfz95_1, hfz95_2, hfz95_3, hfz95_4, hfz95_5, hfz95_6, hfz95_7⟩ := blk8_ BK625.out))
       go_ret
       exact ⟨by first | rfl | (simp [errW_none, errW_some] <;> rfl) | (simp [*, errW_none, errW_some] <;> rfl), by repeat (first | (with_reducible first | exact HB.out | apply below_alloc | apply pw_below_drewN | apply below_drew1 | refine below_set ?_ GE625.out) | exact HB.out)⟩
      ·rw [if_neg c92] at H
       have c92b0 : ((l1.length : Int) == 0) = false := beq_eq_false_iff_ne.mpr c92
       have c92b1 : ((l1.length : Int) != 0) = true := bne_iff_ne.mpr c92
       have c92b2 : ¬ (l1 = []) := fun h_ => c92 (by rw [h_]; rfl)
       by_cases c96 : 0 < (l0_6.length : Int)
       ·rw [if_pos c96] at H
        have c96b0 : decide (0 < (l0_6.length : Int)) = true := decide_eq_true c96
        have c96b1 : decide (0 < l0_6.length) = true := decide_eq_true (by omega)
        clear c96
        obtain rfl := Option.some.inj H
        obtain ⟨hcz97_0, hcz97_1, hcz97_2, hcz97_3, hcz97_4, hcz97_5, hcz97_6, hcz97_7, hfz97_0, hfz97_1, hfz97_2, hfz97_3, hfz97_4, hfz97_5, hfz97_6, hfz97_7⟩ := blk8_ BK625.out
        go_wp2_with (first | ((with_reducible refine gate_callee (f := 47) rfl ?_); refine goesL_ (some 152) rfl rfl Try.func47 (by kernel_rfl) rfl #[.agg #[.string a0_0, .int .i64 a0_1, .int .i64 a0_2, .int .i64 a0_3, .int .i64 a0_4, .int .i64 a0_5, .slice (some ad627) l0_6.length c0_6, .slice A0_7 l0_7.length c0_7], .int .i64 x8_1, .int .i64 0] rfl (by (try simp only [List.map_toArray, List.map_cons, List.map_nil]); first | done | rfl | (simp only [List.length_drop, List.length_take]; rfl)) ?_; (with_reducible refine (cost_Between.calls k1 a0_0 a0_1 a0_2 a0_3 a0_4 a0_5 _ _ l0_6 _ _ l0_7 x8_1 0 t628 t629 _ ?side1 ?side2 ?side3 ?side4 A87.out).mono ?_); (case side1 => repeat (first | exact (Kd.C_below HR0_6.out HB.out) | (with_reducible refine Kd.C_alloc ?_ _) | (with_reducible refine Kd.C_drewN ?_ _) | (with_reducible refine Kd.C_drew ?_))); (case side2 => exact HC0_6.out); (case side3 => repeat (first | exact (Kd.C_below HR0_7.out HB.out) | (with_reducible refine Kd.C_alloc ?_ _) | (with_reducible refine Kd.C_drewN ?_ _) | (with_reducible refine Kd.C_drew ?_))); (case side4 => exact HC0_7.out); rintro e w98 ⟨rfl, hb⟩; refine ⟨_, rfl, ?_⟩; have n0_ := Aside0.mk (blk_below (g := gb625) (o := .cells #[.string a0_0, .int .i64 a0_1, .int .i64 a0_2, .int .i64 a0_3, .int .i64 a0_4, .int .i64 a0_5, .slice (some ad627) l0_6.length c0_6, .slice A0_7 l0_7.length c0_7] 25 (0, 0)) (by (with_reducible repeat (first | refine blk_drewN ?_ _ | refine blk_drew ?_ | refine blk_alloc ?_ _)); exact BK625.out) hb); have n1_ := Aside0.mk (below_step (by repeat (first | (with_reducible first | exact HB.out | apply below_alloc | apply pw_below_drewN | apply below_drew1 | refine below_set ?_ GE625.out) | exact HB.out)) hb); clear BK625; clear HB; have BK625 := n0_; have HB := n1_; clear n0_ n1_; (try clear hb); (try clear hb2); (try clear hk); (try clear hi); obtain ⟨hcz99_0, hcz99_1, hcz99_2, hcz99_3, hcz99_4, hcz99_5, hcz99_6, hcz99_7, hfz99_0, hfz99_1, hfz99_2, hfz99_3, hfz99_4, hfz99_5, hfz99_6, hfz99_7⟩ := blk8_ BK625.out; have p630 : 0 ≤ (0 : Int) := (by omega); have q630 : 0 < (l0_6.length : Int) := of_decide_eq_true (by first | (with_reducible assumption) | assumption); obtain ⟨ad630, e630, hx630_0, hx630_1, hx630_2, hx630_3, hx630_4, hx630_5, hx630_6⟩ := at_T32 HR0_6.out 0 p630 q630; obtain rfl : ad627 = ad630 := (by injection e630); have qi630 : (0 < l0_6.length) = True := eq_true (by omega); (try rw [show ((0 : Int)).toNat = 0 from rfl] at hx630_0); (try rw [show 0 * 7 = 0 from rfl] at hx630_0); (try rw [Addr.add_zero'] at hx630_0); (try rw [show ((0 : Int)).toNat = 0 from rfl] at hx630_1); (try rw [show 0 * 7 = 0 from rfl] at hx630_1); (try rw [Addr.add_zero'] at hx630_1); (try rw [show ((0 : Int)).toNat = 0 from rfl] at hx630_2); (try rw [show 0 * 7 = 0 from rfl] at hx630_2); (try rw [Addr.add_zero'] at hx630_2); (try rw [show ((0 : Int)).toNat = 0 from rfl] at hx630_3); (try rw [show 0 * 7 = 0 from rfl] at hx630_3); (try rw [Addr.add_zero'] at hx630_3); (try rw [show ((0 : Int)).toNat = 0 from rfl] at hx630_4); (try rw [show 0 * 7 = 0 from rfl] at hx630_4); (try rw [Addr.add_zero'] at hx630_4); (try rw [show ((0 : Int)).toNat = 0 from rfl] at hx630_5); (try rw [show 0 * 7 = 0 from rfl] at hx630_5); (try rw [Addr.add_zero'] at hx630_5); (try rw [show ((0 : Int)).toNat = 0 from rfl] at hx630_6); (try rw [show 0 * 7 = 0 from rfl] at hx630_6); (try rw [Addr.add_zero'] at hx630_6); replace hx630_0 := (HB.out.cell (World.block_lt_of_cell? w _ hx630_0)).trans hx630_0; replace hx630_1 := (HB.out.cell (World.block_lt_of_cell? w _ hx630_1)).trans hx630_1; replace hx630_2 := (HB.out.cell (World.block_lt_of_cell? w _ hx630_2)).trans hx630_2; replace hx630_3 := (HB.out.cell (World.block_lt_of_cell? w _ hx630_3)).trans hx630_3; replace hx630_4 := (HB.out.cell (World.block_lt_of_cell? w _ hx630_4)).trans hx630_4; replace hx630_5 := (HB.out.cell (World.block_lt_of_cell? w _ hx630_5)).trans hx630_5; replace hx630_6 := (HB.out.cell (World.block_lt_of_cell? w _ hx630_6)).trans hx630_6; replace p630 := eq_true p630; replace q630 := eq_true q630))
        go_ret
        exact ⟨by first | rfl | (simp [errW_none, errW_some] <;> rfl) | (simp [*, errW_none, errW_some] <;> rfl), by repeat (first | (with_reducible first | exact HB.out | apply below_alloc | apply pw_below_drewN | apply below_drew1 | refine below_set ?_ GE625.out) | exact HB.out)⟩
       ·rw [if_neg c96] at H
        exact absurd H (by simp)
 ·rw [if_neg c4] at H
  exact absurd H (by simp)

end Go.Proofs.Ytlncbckpcmojpaa.P
