/- Written by a program of this session, after the kit's print: Lean functions for Go functions, and the proof that the machine comes to their answers. -/
import Derived.Test.YtfnnngoandpgkaaPx0
import Derived.Test.YtfnnngoandpgkaaMga
import Derived.Test.YtfnnngoandpgkaaMge
import Derived.Test.YtfnnngoandpgkaaMgb
import Derived.Test.YtfnnngoandpgkaaMgc
namespace Go.Proofs.Ytfnnngoandpgkaa.P
open Go.RowKit Go.Proofs.YtfnnngoandpgkaaW.PrintWords Go.Proofs.YtfnnngoandpgkaaW.PrintLast Go.Proofs.YtfnnngoandpgkaaW.PrintMore
attribute [local go_sem] max2_int min2_int max_two min_two max_three min_three max_four min_four   -- for this text's walks alone
set_option linter.unusedVariables false
set_option linter.unusedSimpArgs false

attribute [local go_sem high] eqA43
/-! ### entrepotlaw08_CanonNormal: function 5 -/
mutual
def entrepotlaw08_CanonNormal.j0 : Nat → Bool → ByteArray → Int → Int → Int → Int → Int → List (S46) → List Int → Option (Bool)
 | 0, _, _, _, _, _, _, _, _, _ => none
 | k + 1, x13, x393000, x393001, x393002, x393003, x393004, x393005, x393006, x393007 => if x13 = true then ((entrepotlaw08_shown.f).bind fun t395 => (some t395)) else ((canon_Norm.f x393000 x393001 x393002 x393003 x393004 x393005 x393006 x393007).bind fun bt396 => ((canon_Norm.f bt396.1 bt396.2.1 bt396.2.2.1 bt396.2.2.2.1 bt396.2.2.2.2.1 bt396.2.2.2.2.2.1 bt396.2.2.2.2.2.2.1 bt396.2.2.2.2.2.2.2).bind fun bt409 => ((canon_Same.f bt409.1 bt409.2.1 bt409.2.2.1 bt409.2.2.2.1 bt409.2.2.2.2.1 bt409.2.2.2.2.2.1 bt409.2.2.2.2.2.2.1 bt409.2.2.2.2.2.2.2 bt396.1 bt396.2.1 bt396.2.2.1 bt396.2.2.2.1 bt396.2.2.2.2.1 bt396.2.2.2.2.2.1 bt396.2.2.2.2.2.2.1 bt396.2.2.2.2.2.2.2).bind fun t421 => (if t421 = true then ((canon_Well.f x393000 x393001 x393002 x393003 x393004 x393005 x393006 x393007).bind fun t422 => (if t422 = true then ((canon_Well.f bt396.1 bt396.2.1 bt396.2.2.1 bt396.2.2.2.1 bt396.2.2.2.2.1 bt396.2.2.2.2.2.1 bt396.2.2.2.2.2.2.1 bt396.2.2.2.2.2.2.2).bind fun t423 => (if t423 = true then ((canon_Same.f x393000 x393001 x393002 x393003 x393004 x393005 x393006 x393007 x393000 x393001 x393002 x393003 x393004 x393005 x393006 x393007).bind fun t424 => (entrepotlaw08_CanonNormal.j1 k (!t424) x393000 x393001 x393002 x393003 x393004 x393005 x393006 x393007 bt396.1 bt396.2.1 bt396.2.2.1 bt396.2.2.2.1 bt396.2.2.2.2.1 bt396.2.2.2.2.2.1 bt396.2.2.2.2.2.2.1 bt396.2.2.2.2.2.2.2)) else (entrepotlaw08_CanonNormal.j1 k true x393000 x393001 x393002 x393003 x393004 x393005 x393006 x393007 bt396.1 bt396.2.1 bt396.2.2.1 bt396.2.2.2.1 bt396.2.2.2.2.1 bt396.2.2.2.2.2.1 bt396.2.2.2.2.2.2.1 bt396.2.2.2.2.2.2.2))) else ((canon_Same.f x393000 x393001 x393002 x393003 x393004 x393005 x393006 x393007 x393000 x393001 x393002 x393003 x393004 x393005 x393006 x393007).bind fun t425 => (entrepotlaw08_CanonNormal.j1 k (!t425) x393000 x393001 x393002 x393003 x393004 x393005 x393006 x393007 bt396.1 bt396.2.1 bt396.2.2.1 bt396.2.2.2.1 bt396.2.2.2.2.1 bt396.2.2.2.2.2.1 bt396.2.2.2.2.2.2.1 bt396.2.2.2.2.2.2.2)))) else (entrepotlaw08_CanonNormal.j1 k true x393000 x393001 x393002 x393003 x393004 x393005 x393006 x393007 bt396.1 bt396.2.1 bt396.2.2.1 bt396.2.2.2.1 bt396.2.2.2.2.1 bt396.2.2.2.2.2.1 bt396.2.2.2.2.2.2.1 bt396.2.2.2.2.2.2.2)))))
def entrepotlaw08_CanonNormal.j1 : Nat → Bool → ByteArray → Int → Int → Int → Int → Int → List (S46) → List Int → ByteArray → Int → Int → Int → Int → Int → List (S46) → List Int → Option (Bool)
 | 0, _, _, _, _, _, _, _, _, _, _, _, _, _, _, _, _, _ => none
 | k + 1, x36, x393000, x393001, x393002, x393003, x393004, x393005, x393006, x393007, x409000, x409001, x409002, x409003, x409004, x409005, x409006, x409007 => if x36 = true then (some false) else ((canon_Check.f x393000 x393001 x393002 x393003 x393004 x393005 x393006 x393007).bind fun t426 => ((canon_Check.f x409000 x409001 x409002 x409003 x409004 x409005 x409006 x409007).bind fun t429 => (entrepotlaw08_CanonNormal.l0 k t426 t429 0 0 x393000 x393001 x393002 x393003 x393004 x393005 x393006 x393007 x409000 x409001 x409002 x409003 x409004 x409005 x409006 x409007)))
def entrepotlaw08_CanonNormal.l0 : Nat → List (S43) → List (S43) → Int → Int → ByteArray → Int → Int → Int → Int → Int → List (S46) → List Int → ByteArray → Int → Int → Int → Int → Int → List (S46) → List Int → Option (Bool)
 | 0, _, _, _, _, _, _, _, _, _, _, _, _, _, _, _, _, _, _, _, _ => none
 | k + 1, x4, x5, x6, x7, x393000, x393001, x393002, x393003, x393004, x393005, x393006, x393007, x409000, x409001, x409002, x409003, x409004, x409005, x409006, x409007 => if x7 < (x5.length : Int) then (entrepotlaw08_CanonNormal.l1 k x4 x5 x6 x7 x393000 x393001 x393002 x393003 x393004 x393005 x393006 x393007 x409000 x409001 x409002 x409003 x409004 x409005 x409006 x409007) else (if x409003 ≤ x393003 then (some ((x409006.length : Int) == (x393006.length : Int))) else (some false))
def entrepotlaw08_CanonNormal.l1 : Nat → List (S43) → List (S43) → Int → Int → ByteArray → Int → Int → Int → Int → Int → List (S46) → List Int → ByteArray → Int → Int → Int → Int → Int → List (S46) → List Int → Option (Bool)
 | 0, _, _, _, _, _, _, _, _, _, _, _, _, _, _, _, _, _, _, _, _ => none
 | k + 1, x4, x5, x6, x7, x393000, x393001, x393002, x393003, x393004, x393005, x393006, x393007, x409000, x409001, x409002, x409003, x409004, x409005, x409006, x409007 => if x6 < (x4.length : Int) then (if 0 ≤ x6 then (if 0 ≤ x7 then (if x7 < (x5.length : Int) then (if (!(((rd_T43 x4 x6).f0) == ((rd_T43 x5 x7).f0)) || (!(((rd_T43 x4 x6).f1) == ((rd_T43 x5 x7).f1)))) = true then (entrepotlaw08_CanonNormal.l1 k x4 x5 (wrap64 (x6 + 1)) x7 x393000 x393001 x393002 x393003 x393004 x393005 x393006 x393007 x409000 x409001 x409002 x409003 x409004 x409005 x409006 x409007) else (if x6 = (x4.length : Int) then (some false) else (entrepotlaw08_CanonNormal.l0 k x4 x5 x6 (wrap64 (x7 + 1)) x393000 x393001 x393002 x393003 x393004 x393005 x393006 x393007 x409000 x409001 x409002 x409003 x409004 x409005 x409006 x409007))) else (none)) else (none)) else (none)) else (if x6 = (x4.length : Int) then (some false) else (entrepotlaw08_CanonNormal.l0 k x4 x5 x6 (wrap64 (x7 + 1)) x393000 x393001 x393002 x393003 x393004 x393005 x393006 x393007 x409000 x409001 x409002 x409003 x409004 x409005 x409006 x409007))
end
def entrepotlaw08_CanonNormal.f (k : Nat) (a0_0 : ByteArray) (a0_1 : Int) (a0_2 : Int) (a0_3 : Int) (a0_4 : Int) (a0_5 : Int) (l0_6 : List (S46)) (l0_7 : List Int) : Option (Bool) := (entrepotlaw08_long.f a0_0 a0_1 a0_2 a0_3 a0_4 a0_5 l0_6 l0_7).bind fun t393 => (if t393 = true then (entrepotlaw08_CanonNormal.j0 k true a0_0 a0_1 a0_2 a0_3 a0_4 a0_5 l0_6 l0_7) else ((entrepotlaw08_shown.f).bind fun t394 => (entrepotlaw08_CanonNormal.j0 k (!t394) a0_0 a0_1 a0_2 a0_3 a0_4 a0_5 l0_6 l0_7)))
theorem entrepotlaw08_CanonNormal.mono_l : ∀ k, (∀ y0 y1 y2 y3 y4 y5 y6 y7 y8, LeO (entrepotlaw08_CanonNormal.j0 k y0 y1 y2 y3 y4 y5 y6 y7 y8) (entrepotlaw08_CanonNormal.j0 (k + 1) y0 y1 y2 y3 y4 y5 y6 y7 y8)) ∧ (∀ y0 y1 y2 y3 y4 y5 y6 y7 y8 y9 y10 y11 y12 y13 y14 y15 y16, LeO (entrepotlaw08_CanonNormal.j1 k y0 y1 y2 y3 y4 y5 y6 y7 y8 y9 y10 y11 y12 y13 y14 y15 y16) (entrepotlaw08_CanonNormal.j1 (k + 1) y0 y1 y2 y3 y4 y5 y6 y7 y8 y9 y10 y11 y12 y13 y14 y15 y16)) ∧ (∀ y0 y1 y2 y3 y4 y5 y6 y7 y8 y9 y10 y11 y12 y13 y14 y15 y16 y17 y18 y19, LeO (entrepotlaw08_CanonNormal.l0 k y0 y1 y2 y3 y4 y5 y6 y7 y8 y9 y10 y11 y12 y13 y14 y15 y16 y17 y18 y19) (entrepotlaw08_CanonNormal.l0 (k + 1) y0 y1 y2 y3 y4 y5 y6 y7 y8 y9 y10 y11 y12 y13 y14 y15 y16 y17 y18 y19)) ∧ (∀ y0 y1 y2 y3 y4 y5 y6 y7 y8 y9 y10 y11 y12 y13 y14 y15 y16 y17 y18 y19, LeO (entrepotlaw08_CanonNormal.l1 k y0 y1 y2 y3 y4 y5 y6 y7 y8 y9 y10 y11 y12 y13 y14 y15 y16 y17 y18 y19) (entrepotlaw08_CanonNormal.l1 (k + 1) y0 y1 y2 y3 y4 y5 y6 y7 y8 y9 y10 y11 y12 y13 y14 y15 y16 y17 y18 y19))
 | 0 => ⟨fun _ _ _ _ _ _ _ _ _ r h => by simp [entrepotlaw08_CanonNormal.j0] at h, fun _ _ _ _ _ _ _ _ _ _ _ _ _ _ _ _ _ r h => by simp [entrepotlaw08_CanonNormal.j1] at h, fun _ _ _ _ _ _ _ _ _ _ _ _ _ _ _ _ _ _ _ _ r h => by simp [entrepotlaw08_CanonNormal.l0] at h, fun _ _ _ _ _ _ _ _ _ _ _ _ _ _ _ _ _ _ _ _ r h => by simp [entrepotlaw08_CanonNormal.l1] at h⟩
 | k + 1 => by
  obtain ⟨ih0, ih1, ih2, ih3⟩ := entrepotlaw08_CanonNormal.mono_l k
  refine ⟨?_, ?_, ?_, ?_⟩ <;> intros
  all_goals first | unfold entrepotlaw08_CanonNormal.j0 | unfold entrepotlaw08_CanonNormal.j1 | unfold entrepotlaw08_CanonNormal.l0 | unfold entrepotlaw08_CanonNormal.l1
  all_goals repeat' first
  | (with_reducible exact ih0 _ _ _ _ _ _ _ _ _)
  | (with_reducible exact ih1 _ _ _ _ _ _ _ _ _ _ _ _ _ _ _ _ _)
  | (with_reducible exact ih2 _ _ _ _ _ _ _ _ _ _ _ _ _ _ _ _ _ _ _ _)
  | (with_reducible exact ih3 _ _ _ _ _ _ _ _ _ _ _ _ _ _ _ _ _ _ _ _)
  | (with_reducible exact LeO.refl _)
  | (with_reducible exact LeO.none _)
  | (with_reducible refine LeO.ite ?_ ?_)
  | (with_reducible refine LeO.bind ?_ (fun _ => ?_))
  | exact ih0 _ _ _ _ _ _ _ _ _
  | exact ih1 _ _ _ _ _ _ _ _ _ _ _ _ _ _ _ _ _
  | exact ih2 _ _ _ _ _ _ _ _ _ _ _ _ _ _ _ _ _ _ _ _
  | exact ih3 _ _ _ _ _ _ _ _ _ _ _ _ _ _ _ _ _ _ _ _
  | exact LeO.none _
  | refine LeO.ite ?_ ?_
  | refine LeO.bind ?_ (fun _ => ?_)
theorem entrepotlaw08_CanonNormal.mono : ∀ a0 a1 a2 a3 a4 a5 a6 a7 k, LeO (entrepotlaw08_CanonNormal.f k a0 a1 a2 a3 a4 a5 a6 a7) (entrepotlaw08_CanonNormal.f (k + 1) a0 a1 a2 a3 a4 a5 a6 a7) := by
 intro a0 a1 a2 a3 a4 a5 a6 a7 k
 obtain ⟨ih0, ih1, ih2, ih3⟩ := entrepotlaw08_CanonNormal.mono_l k
 unfold entrepotlaw08_CanonNormal.f
 repeat' first
   | (with_reducible exact ih0 _ _ _ _ _ _ _ _ _)
   | (with_reducible exact ih1 _ _ _ _ _ _ _ _ _ _ _ _ _ _ _ _ _)
   | (with_reducible exact ih2 _ _ _ _ _ _ _ _ _ _ _ _ _ _ _ _ _ _ _ _)
   | (with_reducible exact ih3 _ _ _ _ _ _ _ _ _ _ _ _ _ _ _ _ _ _ _ _)
   | (with_reducible exact LeO.refl _)
   | (with_reducible exact LeO.none _)
   | (with_reducible refine LeO.ite ?_ ?_)
   | (with_reducible refine LeO.bind ?_ (fun _ => ?_))
   | exact ih0 _ _ _ _ _ _ _ _ _
   | exact ih1 _ _ _ _ _ _ _ _ _ _ _ _ _ _ _ _ _
   | exact ih2 _ _ _ _ _ _ _ _ _ _ _ _ _ _ _ _ _ _ _ _
   | exact ih3 _ _ _ _ _ _ _ _ _ _ _ _ _ _ _ _ _ _ _ _
   | exact LeO.none _
   | refine LeO.ite ?_ ?_
   | refine LeO.bind ?_ (fun _ => ?_)
def entrepotlaw08_CanonNormal.T4 : Bool × List (List Nat × List Nat) := (true, [([], []), ([0], [0]), ([], []), ([1, 2, 1], [1, 2]), ([3], [3]), ([4, 3], [4]), ([5], [5]), ([6, 5, 5], [5, 6]), ([7, 7, 5], [5, 7]), ([8], [8]), ([9, 8, 8], [8, 9]), ([10, 8], [8, 10]), ([8, 11, 5], [5, 8, 11]), ([5, 12], [5, 12]), ([13, 10], [13]), ([14], [14]), ([14], [14]), ([15, 16, 14, 14], [14, 15, 16]), ([17, 14], [14, 17]), ([14, 18], [14, 18])])
def entrepotlaw08_CanonNormal.B4 : List Nat := [0, 1, 0, 7, 15, 31, 63, 127, 255, 511, 1023, 2047, 4095, 8191, 16383, 32767, 32767, 131071, 262143, 524287]
theorem entrepotlaw08_CanonNormal.tab4 : rtab .any (opsOf Try.f5 4) = entrepotlaw08_CanonNormal.T4 := by kernel_rfl
theorem entrepotlaw08_CanonNormal.bits4 : waitsOk entrepotlaw08_CanonNormal.T4.2 entrepotlaw08_CanonNormal.B4 = true := by kernel_rfl
def entrepotlaw08_CanonNormal.T12 : Bool × List (List Nat × List Nat) := (true, [([], []), ([], []), ([1], [1]), ([0, 2], [0, 2]), ([3], [3]), ([4], [4]), ([4], [4]), ([5, 6, 4], [4, 5, 6]), ([7, 4], [4, 7]), ([4], [4]), ([4], [4]), ([9, 10, 4], [4, 9, 10]), ([11, 4], [4, 11]), ([8, 12, 4], [4, 8, 12]), ([4, 13], [4, 13])])
def entrepotlaw08_CanonNormal.B12 : List Nat := [0, 0, 2, 7, 15, 31, 31, 127, 255, 31, 31, 1567, 3615, 8191, 16383]
theorem entrepotlaw08_CanonNormal.tab12 : rtab .any (opsOf Try.f5 12) = entrepotlaw08_CanonNormal.T12 := by kernel_rfl
theorem entrepotlaw08_CanonNormal.bits12 : waitsOk entrepotlaw08_CanonNormal.T12.2 entrepotlaw08_CanonNormal.B12 = true := by kernel_rfl
abbrev CN0_ : Array Bool := #[false, false, false, false, false, false, false, false, false, false, false, false, false, false, false, false, false, false, false, false]
abbrev CN1_ : Array Bool := #[true, false, false, false, false, false, false, false, false, false, false, false, false, false, false, false, false, false, false, false]
abbrev CN2_ : Array Bool := #[true, false, true, false, false, false, false, false, false, false, false, false, false, false, false, false, false, false, false, false]
abbrev CN3_ : Array Bool := #[true, true, true, false, false, false, false, false, false, false, false, false, false, false, false, false, false, false, false, false]
abbrev CN4_ : Array Bool := #[true, true, true, true, false, false, false, false, false, false, false, false, false, false, false, false, false, false, false, false]
abbrev CN5_ : Array Bool := #[true, true, true, true, true, false, false, false, false, false, false, false, false, false, false, false, false, false, false, false]
abbrev CN6_ : Array Bool := #[true, true, true, true, true, true, false, false, false, false, false, false, false, false, false, false, false, false, false, false]
abbrev CN7_ : Array Bool := #[true, true, true, true, true, true, true, false, false, false, false, false, false, false, false, false, false, false, false, false]
abbrev CN8_ : Array Bool := #[true, true, true, true, true, true, true, true, false, false, false, false, false, false, false, false, false, false, false, false]
abbrev CN9_ : Array Bool := #[true, true, true, true, true, true, true, true, true, false, false, false, false, false, false, false, false, false, false, false]
abbrev CN10_ : Array Bool := #[true, true, true, true, true, true, true, true, true, true, false, false, false, false, false, false, false, false, false, false]
abbrev CN11_ : Array Bool := #[true, true, true, true, true, true, true, true, true, true, true, false, false, false, false, false, false, false, false, false]
abbrev CN12_ : Array Bool := #[true, true, true, true, true, true, true, true, true, true, true, true, false, false, false, false, false, false, false, false]
abbrev CN13_ : Array Bool := #[true, true, true, true, true, true, true, true, true, true, true, true, true, false, false, false, false, false, false, false]
abbrev CN14_ : Array Bool := #[true, true, true, true, true, true, true, true, true, true, true, true, true, true, false, false, false, false, false, false]
abbrev CN15_ : Array Bool := #[true, true, true, true, true, true, true, true, true, true, true, true, true, true, true, false, false, false, false, false]
abbrev CN16_ : Array Bool := #[true, true, true, true, true, true, true, true, true, true, true, true, true, true, true, true, false, false, false, false]
abbrev CN17_ : Array Bool := #[true, true, true, true, true, true, true, true, true, true, true, true, true, true, true, true, true, false, false, false]
abbrev CN18_ : Array Bool := #[true, true, true, true, true, true, true, true, true, true, true, true, true, true, true, true, true, true, false, false]
abbrev CN19_ : Array Bool := #[true, true, true, true, true, true, true, true, true, true, true, true, true, true, true, true, true, true, true, false]
abbrev CN20_ : Array Bool := #[true, true, true, true, true, true, true, true, true, true, true, true, true, true, true, true, true, true, true, true]
abbrev CN21_ : Array Bool := #[false, false, false, false, false, false, false, false, false, false, false, false, false, false, false]
abbrev CN22_ : Array Bool := #[true, false, false, false, false, false, false, false, false, false, false, false, false, false, false]
abbrev CN23_ : Array Bool := #[true, true, false, false, false, false, false, false, false, false, false, false, false, false, false]
abbrev CN24_ : Array Bool := #[true, true, true, false, false, false, false, false, false, false, false, false, false, false, false]
abbrev CN25_ : Array Bool := #[true, true, true, true, false, false, false, false, false, false, false, false, false, false, false]
abbrev CN26_ : Array Bool := #[true, true, true, true, true, false, false, false, false, false, false, false, false, false, false]
abbrev CN27_ : Array Bool := #[true, true, true, true, true, true, false, false, false, false, false, false, false, false, false]
abbrev CN28_ : Array Bool := #[true, true, true, true, true, true, true, false, false, false, false, false, false, false, false]
abbrev CN29_ : Array Bool := #[true, true, true, true, true, true, true, true, false, false, false, false, false, false, false]
abbrev CN30_ : Array Bool := #[true, true, true, true, true, true, true, true, false, true, false, false, false, false, false]
abbrev CN31_ : Array Bool := #[true, true, true, true, true, true, true, true, false, true, true, false, false, false, false]
abbrev CN32_ : Array Bool := #[true, true, true, true, true, true, true, true, false, true, true, true, false, false, false]
abbrev CN33_ : Array Bool := #[true, true, true, true, true, true, true, true, true, true, true, true, false, false, false]
abbrev CN34_ : Array Bool := #[true, true, true, true, true, true, true, true, true, true, true, true, true, false, false]
abbrev CN35_ : Array Bool := #[true, true, true, true, true, true, true, true, true, true, true, true, true, true, false]
abbrev CN36_ : Array Bool := #[true, true, true, true, true, true, true, true, true, true, true, true, true, true, true]
set_option maxHeartbeats 8000000 in
set_option maxRecDepth 100000 in
theorem entrepotlaw08_CanonNormal.callsT (k : Nat) (a0_0 : ByteArray) (a0_1 : Int) (a0_2 : Int) (a0_3 : Int) (a0_4 : Int) (a0_5 : Int) (A0_6 : Option Addr) (c0_6 : Nat) (l0_6 : List (S46)) (A0_7 : Option Addr) (c0_7 : Nat) (l0_7 : List Int) (r : Bool) (w : World) (hr0_6 : Kd.C k46 w A0_6 l0_6.length l0_6) (hc0_6 : l0_6.length ≤ c0_6) (hr0_7 : Kd.C (Kd.int .i64) w A0_7 l0_7.length l0_7) (hc0_7 : l0_7.length ≤ c0_7) (h : entrepotlaw08_CanonNormal.f k a0_0 a0_1 a0_2 a0_3 a0_4 a0_5 l0_6 l0_7 = some r) (hr_ : Aside0 (r = true)) :
  Calls Try.prog 5 #[.agg #[.string a0_0, .int .i64 a0_1, .int .i64 a0_2, .int .i64 a0_3, .int .i64 a0_4, .int .i64 a0_5, .slice A0_6 l0_6.length c0_6, .slice A0_7 l0_7.length c0_7]] w fun e w' => e = .returned (.bool r) ∧ Below w.heap.size w w' := by
 have hu25 := Try.underlying25
 have hu43 := Try.underlying43
 have HR0_6 := Am hr0_6
 have HC0_6 := Am hc0_6
 clear hr0_6 hc0_6
 have HR0_7 := Am hr0_7
 have HC0_7 := Am hc0_7
 clear hr0_7 hc0_7
 have HB := Am (Below.refl w.heap.size w)
 have H : ((entrepotlaw08_long.f a0_0 a0_1 a0_2 a0_3 a0_4 a0_5 l0_6 l0_7).bind fun t393 => (if t393 = true then (entrepotlaw08_CanonNormal.j0 k true a0_0 a0_1 a0_2 a0_3 a0_4 a0_5 l0_6 l0_7) else ((entrepotlaw08_shown.f).bind fun t394 => (entrepotlaw08_CanonNormal.j0 k (!t394) a0_0 a0_1 a0_2 a0_3 a0_4 a0_5 l0_6 l0_7)))) = some r := h
 clear h
 have HC2 := Am H
 clear H
 go_enter Try.func5, Try.ntmps5
 go_upto_region 1 with (first | ((with_reducible refine gate_dst (N := 1) rfl ?_); (try (refine gate_guard (by rfl) ?_; dsimp only)); refine box_event ?hg (N := 1) ?hd (cs := #[.string a0_0, .int .i64 a0_1, .int .i64 a0_2, .int .i64 a0_3, .int .i64 a0_4, .int .i64 a0_5, .slice A0_6 l0_6.length c0_6, .slice A0_7 l0_7.length c0_7]) (t := 25) ?hr ?_; (case hd => rfl); (case hg => rfl); (case hr => first | (go_simp; done) | (go_simp; rfl)); intro gb392 hg w3 hbox hb; have n0_ := Am (below_step (by repeat (first | (with_reducible first | exact HB.out | apply below_alloc | apply pw_below_drewN | apply below_drew1) | exact HB.out)) hb); have n1_ := Am (hbox); have n2_ := Am ((by rw [hg]; exact (below_size (by repeat (first | (with_reducible first | exact HB.out | apply below_alloc | apply pw_below_drewN | apply below_drew1) | exact HB.out))) : w.heap.size ≤ gb392)); have n3_ := Am ((by rw [hg]; exact (below_size (by repeat (first | (with_reducible first | exact HB.out | apply below_alloc | apply pw_below_drewN | apply below_drew1) | exact HB.out))) : w.heap.size ≤ gb392)); clear HB; have HB := n0_; have BK392 := n1_; have GW392 := n2_; have GE392 := n3_; clear n0_ n1_ n2_ n3_; clear hb hbox hg))
 (try simp only [Act.put, s1_, s2_, s3_])
 go_cut [13] (fun v13 wc => ∃ (kq : Nat) (x13_1 : Bool), v13 = .bool x13_1 ∧ Aside0 (entrepotlaw08_CanonNormal.j0 kq x13_1 a0_0 a0_1 a0_2 a0_3 a0_4 a0_5 l0_6 l0_7 = some r) ∧ Aside0 (kq ≤ k) ∧ Aside0 (wc.heap[gb392]? = some (.cells #[.string a0_0, .int .i64 a0_1, .int .i64 a0_2, .int .i64 a0_3, .int .i64 a0_4, .int .i64 a0_5, (.slice A0_6 l0_6.length c0_6), (.slice A0_7 l0_7.length c0_7)] 25 (0, 0))) ∧ Aside0 (Below w.heap.size w wc))
 case first =>
  have H := HC2.out
  clear HC2
  replace H := Option.bind_eq_some_iff.mp H
  obtain ⟨t393, A40, H⟩ := H
  replace H : (if t393 = true then (entrepotlaw08_CanonNormal.j0 k true a0_0 a0_1 a0_2 a0_3 a0_4 a0_5 l0_6 l0_7) else ((entrepotlaw08_shown.f).bind fun t394 => (entrepotlaw08_CanonNormal.j0 k (!t394) a0_0 a0_1 a0_2 a0_3 a0_4 a0_5 l0_6 l0_7))) = some r := H
  have A4 := Am A40
  clear A40
  by_cases c5 : t393 = true
  ·subst c5
   have H1 : (entrepotlaw08_CanonNormal.j0 k true a0_0 a0_1 a0_2 a0_3 a0_4 a0_5 l0_6 l0_7) = some r := by rw [if_pos rfl] at H; exact H
   clear H
   have H := H1
   clear H1
   have H' := Am H
   clear H
   obtain ⟨hcz6_0, hcz6_1, hcz6_2, hcz6_3, hcz6_4, hcz6_5, hcz6_6, hcz6_7, hfz6_0, hfz6_1, hfz6_2, hfz6_3, hfz6_4, hfz6_5, hfz6_6, hfz6_7⟩ := blk8_ BK392.out
   go_wp2_with (first | ((with_reducible refine gate_callee (f := 9) rfl ?_); refine goesL_ (some 9) rfl rfl Try.func9 (by kernel_rfl) rfl #[.agg #[.string a0_0, .int .i64 a0_1, .int .i64 a0_2, .int .i64 a0_3, .int .i64 a0_4, .int .i64 a0_5, .slice A0_6 l0_6.length c0_6, .slice A0_7 l0_7.length c0_7]] rfl (by (try simp only [List.map_toArray, List.map_cons, List.map_nil]); first | done | rfl | (simp only [List.length_drop, List.length_take]; rfl)) ?_; (with_reducible refine (entrepotlaw08_long.calls a0_0 a0_1 a0_2 a0_3 a0_4 a0_5 _ _ l0_6 _ _ l0_7 true _ ?side1 ?side2 ?side3 ?side4 A4.out).mono ?_); (case side1 => repeat (first | exact (Kd.C_below HR0_6.out HB.out) | (with_reducible refine Kd.C_alloc ?_ _) | (with_reducible refine Kd.C_drewN ?_ _) | (with_reducible refine Kd.C_drew ?_))); (case side2 => exact HC0_6.out); (case side3 => repeat (first | exact (Kd.C_below HR0_7.out HB.out) | (with_reducible refine Kd.C_alloc ?_ _) | (with_reducible refine Kd.C_drewN ?_ _) | (with_reducible refine Kd.C_drew ?_))); (case side4 => exact HC0_7.out); rintro e w7 ⟨rfl, hb⟩; refine ⟨_, rfl, ?_⟩; have n0_ := Am (blk_below (g := gb392) (o := .cells #[.string a0_0, .int .i64 a0_1, .int .i64 a0_2, .int .i64 a0_3, .int .i64 a0_4, .int .i64 a0_5, .slice A0_6 l0_6.length c0_6, .slice A0_7 l0_7.length c0_7] 25 (0, 0)) (by (with_reducible repeat (first | refine blk_drewN ?_ _ | refine blk_drew ?_ | refine blk_alloc ?_ _)); exact BK392.out) hb); have n1_ := Am (below_step (by repeat (first | (with_reducible first | exact HB.out | apply below_alloc | apply pw_below_drewN | apply below_drew1 | refine below_set ?_ GE392.out) | exact HB.out)) hb); clear BK392; clear HB; have BK392 := n0_; have HB := n1_; clear n0_ n1_; (try clear hb); (try clear hb2); (try clear hk); (try clear hi)))
   go_meet
   case rel => exact ⟨_, (true), (by first | rfl | (simp; done) | (simp [*]; done)), H', ⟨by first | omega | exact Nat.le_refl _⟩, ⟨by (with_reducible repeat (first | refine blk_drewN ?_ _ | refine blk_drew ?_ | refine blk_alloc ?_ _)); exact BK392.out⟩, ⟨by repeat (first | (with_reducible first | exact HB.out | apply below_alloc | apply pw_below_drewN | apply below_drew1 | refine below_set ?_ GE392.out) | exact HB.out)⟩⟩
  ·replace c5 := Bool.eq_false_iff.mpr c5
   subst c5
   have H1 : ((entrepotlaw08_shown.f).bind fun t394 => (entrepotlaw08_CanonNormal.j0 k (!t394) a0_0 a0_1 a0_2 a0_3 a0_4 a0_5 l0_6 l0_7)) = some r := by rw [if_neg (show ¬ (false = true) by decide)] at H; exact H
   clear H
   have H := H1
   clear H1
   replace H := Option.bind_eq_some_iff.mp H
   obtain ⟨t394, A80, H⟩ := H
   replace H : (entrepotlaw08_CanonNormal.j0 k (!t394) a0_0 a0_1 a0_2 a0_3 a0_4 a0_5 l0_6 l0_7) = some r := H
   have A8 := Am A80
   clear A80
   have H' := Am H
   clear H
   obtain ⟨hcz9_0, hcz9_1, hcz9_2, hcz9_3, hcz9_4, hcz9_5, hcz9_6, hcz9_7, hfz9_0, hfz9_1, hfz9_2, hfz9_3, hfz9_4, hfz9_5, hfz9_6, hfz9_7⟩ := blk8_ BK392.out
   go_wp2_with (first | ((with_reducible refine gate_callee (f := 9) rfl ?_); refine goesL_ (some 9) rfl rfl Try.func9 (by kernel_rfl) rfl #[.agg #[.string a0_0, .int .i64 a0_1, .int .i64 a0_2, .int .i64 a0_3, .int .i64 a0_4, .int .i64 a0_5, .slice A0_6 l0_6.length c0_6, .slice A0_7 l0_7.length c0_7]] rfl (by (try simp only [List.map_toArray, List.map_cons, List.map_nil]); first | done | rfl | (simp only [List.length_drop, List.length_take]; rfl)) ?_; (with_reducible refine (entrepotlaw08_long.calls a0_0 a0_1 a0_2 a0_3 a0_4 a0_5 _ _ l0_6 _ _ l0_7 false _ ?side1 ?side2 ?side3 ?side4 A4.out).mono ?_); (case side1 => repeat (first | exact (Kd.C_below HR0_6.out HB.out) | (with_reducible refine Kd.C_alloc ?_ _) | (with_reducible refine Kd.C_drewN ?_ _) | (with_reducible refine Kd.C_drew ?_))); (case side2 => exact HC0_6.out); (case side3 => repeat (first | exact (Kd.C_below HR0_7.out HB.out) | (with_reducible refine Kd.C_alloc ?_ _) | (with_reducible refine Kd.C_drewN ?_ _) | (with_reducible refine Kd.C_drew ?_))); (case side4 => exact HC0_7.out); rintro e w10 ⟨rfl, hb⟩; refine ⟨_, rfl, ?_⟩; have n0_ := Am (blk_below (g := gb392) (o := .cells #[.string a0_0, .int .i64 a0_1, .int .i64 a0_2, .int .i64 a0_3, .int .i64 a0_4, .int .i64 a0_5, .slice A0_6 l0_6.length c0_6, .slice A0_7 l0_7.length c0_7] 25 (0, 0)) (by (with_reducible repeat (first | refine blk_drewN ?_ _ | refine blk_drew ?_ | refine blk_alloc ?_ _)); exact BK392.out) hb); have n1_ := Am (below_step (by repeat (first | (with_reducible first | exact HB.out | apply below_alloc | apply pw_below_drewN | apply below_drew1 | refine below_set ?_ GE392.out) | exact HB.out)) hb); clear BK392; clear HB; have BK392 := n0_; have HB := n1_; clear n0_ n1_; (try clear hb); (try clear hb2); (try clear hk); (try clear hi)) | (go_at_call 10; (with_reducible refine (entrepotlaw08_shown.calls  t394 _ A8.out).mono ?_); rintro e w11 ⟨rfl, hb⟩; have n0_ := Am (blk_below (g := gb392) (o := .cells #[.string a0_0, .int .i64 a0_1, .int .i64 a0_2, .int .i64 a0_3, .int .i64 a0_4, .int .i64 a0_5, .slice A0_6 l0_6.length c0_6, .slice A0_7 l0_7.length c0_7] 25 (0, 0)) (by (with_reducible repeat (first | refine blk_drewN ?_ _ | refine blk_drew ?_ | refine blk_alloc ?_ _)); exact BK392.out) hb); have n1_ := Am (below_step (by repeat (first | (with_reducible first | exact HB.out | apply below_alloc | apply pw_below_drewN | apply below_drew1 | refine below_set ?_ GE392.out) | exact HB.out)) hb); clear BK392; clear HB; have BK392 := n0_; have HB := n1_; clear n0_ n1_; (try clear hb); (try clear hb2); (try clear hk); (try clear hi)))
   go_meet
   case rel => exact ⟨_, (!t394), (by first | rfl | (simp; done) | (simp [*]; done)), H', ⟨by first | omega | exact Nat.le_refl _⟩, ⟨by (with_reducible repeat (first | refine blk_drewN ?_ _ | refine blk_drew ?_ | refine blk_alloc ?_ _)); exact BK392.out⟩, ⟨by repeat (first | (with_reducible first | exact HB.out | apply below_alloc | apply pw_below_drewN | apply below_drew1 | refine below_set ?_ GE392.out) | exact HB.out)⟩⟩
 case rest =>
  clear HC2
  obtain ⟨kq, x13_1, rfl, HA, HJ1, BK392, HB⟩ := hcut
  cases kq with
  | zero => exact absurd HA.out (by simp [entrepotlaw08_CanonNormal.j0])
  | succ kj1 =>
   have H := HA.out
   clear HA
   simp only [entrepotlaw08_CanonNormal.j0] at H
   by_cases c12 : x13_1 = true
   ·subst c12
    have H1 : ((entrepotlaw08_shown.f).bind fun t395 => (some t395)) = some r := by rw [if_pos rfl] at H; exact H
    clear H
    have H := H1
    clear H1
    replace H := Option.bind_eq_some_iff.mp H
    obtain ⟨t395, A130, H⟩ := H
    replace H : (some t395) = some r := H
    have A13 := Am A130
    clear A130
    obtain rfl := Option.some.inj H
    go_wp2_with (first | ((with_reducible refine gate_callee (f := 10) rfl ?_); refine goesL_ (some 14) rfl rfl Try.func10 (by kernel_rfl) rfl #[] rfl (by (try simp only [List.map_toArray, List.map_cons, List.map_nil]); first | done | rfl | (simp only [List.length_drop, List.length_take]; rfl)) ?_; (with_reducible refine (entrepotlaw08_shown.calls  t395 _ A13.out).mono ?_); rintro e w14 ⟨rfl, hb⟩; refine ⟨_, rfl, ?_⟩; have n0_ := Am (blk_below (g := gb392) (o := .cells #[.string a0_0, .int .i64 a0_1, .int .i64 a0_2, .int .i64 a0_3, .int .i64 a0_4, .int .i64 a0_5, .slice A0_6 l0_6.length c0_6, .slice A0_7 l0_7.length c0_7] 25 (0, 0)) (by (with_reducible repeat (first | refine blk_drewN ?_ _ | refine blk_drew ?_ | refine blk_alloc ?_ _)); exact BK392.out) hb); have n1_ := Am (below_step (by repeat (first | (with_reducible first | exact HB.out | apply below_alloc | apply pw_below_drewN | apply below_drew1 | refine below_set ?_ GE392.out) | exact HB.out)) hb); clear BK392; clear HB; have BK392 := n0_; have HB := n1_; clear n0_ n1_; (try clear hb); (try clear hb2); (try clear hk); (try clear hi)))
    go_ret
    exact ⟨by first | rfl | (simp [errW_none, errW_some] <;> rfl) | (simp [*, errW_none, errW_some] <;> rfl), by repeat (first | (with_reducible first | exact HB.out | apply below_alloc | apply pw_below_drewN | apply below_drew1 | refine below_set ?_ GE392.out) | exact HB.out)⟩
   ·replace c12 := Bool.eq_false_iff.mpr c12
    subst c12
    have H1 : ((canon_Norm.f a0_0 a0_1 a0_2 a0_3 a0_4 a0_5 l0_6 l0_7).bind fun bt396 => ((canon_Norm.f bt396.1 bt396.2.1 bt396.2.2.1 bt396.2.2.2.1 bt396.2.2.2.2.1 bt396.2.2.2.2.2.1 bt396.2.2.2.2.2.2.1 bt396.2.2.2.2.2.2.2).bind fun bt409 => ((canon_Same.f bt409.1 bt409.2.1 bt409.2.2.1 bt409.2.2.2.1 bt409.2.2.2.2.1 bt409.2.2.2.2.2.1 bt409.2.2.2.2.2.2.1 bt409.2.2.2.2.2.2.2 bt396.1 bt396.2.1 bt396.2.2.1 bt396.2.2.2.1 bt396.2.2.2.2.1 bt396.2.2.2.2.2.1 bt396.2.2.2.2.2.2.1 bt396.2.2.2.2.2.2.2).bind fun t421 => (if t421 = true then ((canon_Well.f a0_0 a0_1 a0_2 a0_3 a0_4 a0_5 l0_6 l0_7).bind fun t422 => (if t422 = true then ((canon_Well.f bt396.1 bt396.2.1 bt396.2.2.1 bt396.2.2.2.1 bt396.2.2.2.2.1 bt396.2.2.2.2.2.1 bt396.2.2.2.2.2.2.1 bt396.2.2.2.2.2.2.2).bind fun t423 => (if t423 = true then ((canon_Same.f a0_0 a0_1 a0_2 a0_3 a0_4 a0_5 l0_6 l0_7 a0_0 a0_1 a0_2 a0_3 a0_4 a0_5 l0_6 l0_7).bind fun t424 => (entrepotlaw08_CanonNormal.j1 kj1 (!t424) a0_0 a0_1 a0_2 a0_3 a0_4 a0_5 l0_6 l0_7 bt396.1 bt396.2.1 bt396.2.2.1 bt396.2.2.2.1 bt396.2.2.2.2.1 bt396.2.2.2.2.2.1 bt396.2.2.2.2.2.2.1 bt396.2.2.2.2.2.2.2)) else (entrepotlaw08_CanonNormal.j1 kj1 true a0_0 a0_1 a0_2 a0_3 a0_4 a0_5 l0_6 l0_7 bt396.1 bt396.2.1 bt396.2.2.1 bt396.2.2.2.1 bt396.2.2.2.2.1 bt396.2.2.2.2.2.1 bt396.2.2.2.2.2.2.1 bt396.2.2.2.2.2.2.2))) else ((canon_Same.f a0_0 a0_1 a0_2 a0_3 a0_4 a0_5 l0_6 l0_7 a0_0 a0_1 a0_2 a0_3 a0_4 a0_5 l0_6 l0_7).bind fun t425 => (entrepotlaw08_CanonNormal.j1 kj1 (!t425) a0_0 a0_1 a0_2 a0_3 a0_4 a0_5 l0_6 l0_7 bt396.1 bt396.2.1 bt396.2.2.1 bt396.2.2.2.1 bt396.2.2.2.2.1 bt396.2.2.2.2.2.1 bt396.2.2.2.2.2.2.1 bt396.2.2.2.2.2.2.2)))) else (entrepotlaw08_CanonNormal.j1 kj1 true a0_0 a0_1 a0_2 a0_3 a0_4 a0_5 l0_6 l0_7 bt396.1 bt396.2.1 bt396.2.2.1 bt396.2.2.2.1 bt396.2.2.2.2.1 bt396.2.2.2.2.2.1 bt396.2.2.2.2.2.2.1 bt396.2.2.2.2.2.2.2))))) = some r := by rw [if_neg (show ¬ (false = true) by decide)] at H; exact H
    clear H
    have H := H1
    clear H1
    replace H := Option.bind_eq_some_iff.mp H
    obtain ⟨⟨t396, t397, t398, t399, t400, t401, t402, t405⟩, A150, H⟩ := H
    replace H : ((canon_Norm.f t396 t397 t398 t399 t400 t401 t402 t405).bind fun bt409 => ((canon_Same.f bt409.1 bt409.2.1 bt409.2.2.1 bt409.2.2.2.1 bt409.2.2.2.2.1 bt409.2.2.2.2.2.1 bt409.2.2.2.2.2.2.1 bt409.2.2.2.2.2.2.2 t396 t397 t398 t399 t400 t401 t402 t405).bind fun t421 => (if t421 = true then ((canon_Well.f a0_0 a0_1 a0_2 a0_3 a0_4 a0_5 l0_6 l0_7).bind fun t422 => (if t422 = true then ((canon_Well.f t396 t397 t398 t399 t400 t401 t402 t405).bind fun t423 => (if t423 = true then ((canon_Same.f a0_0 a0_1 a0_2 a0_3 a0_4 a0_5 l0_6 l0_7 a0_0 a0_1 a0_2 a0_3 a0_4 a0_5 l0_6 l0_7).bind fun t424 => (entrepotlaw08_CanonNormal.j1 kj1 (!t424) a0_0 a0_1 a0_2 a0_3 a0_4 a0_5 l0_6 l0_7 t396 t397 t398 t399 t400 t401 t402 t405)) else (entrepotlaw08_CanonNormal.j1 kj1 true a0_0 a0_1 a0_2 a0_3 a0_4 a0_5 l0_6 l0_7 t396 t397 t398 t399 t400 t401 t402 t405))) else ((canon_Same.f a0_0 a0_1 a0_2 a0_3 a0_4 a0_5 l0_6 l0_7 a0_0 a0_1 a0_2 a0_3 a0_4 a0_5 l0_6 l0_7).bind fun t425 => (entrepotlaw08_CanonNormal.j1 kj1 (!t425) a0_0 a0_1 a0_2 a0_3 a0_4 a0_5 l0_6 l0_7 t396 t397 t398 t399 t400 t401 t402 t405)))) else (entrepotlaw08_CanonNormal.j1 kj1 true a0_0 a0_1 a0_2 a0_3 a0_4 a0_5 l0_6 l0_7 t396 t397 t398 t399 t400 t401 t402 t405)))) = some r := H
    have A15 := Am A150
    clear A150
    have HC16 := Am H
    clear H
    obtain ⟨hcz17_0, hcz17_1, hcz17_2, hcz17_3, hcz17_4, hcz17_5, hcz17_6, hcz17_7, hfz17_0, hfz17_1, hfz17_2, hfz17_3, hfz17_4, hfz17_5, hfz17_6, hfz17_7⟩ := blk8_ BK392.out
    go_upto_region 4 with (first | ((with_reducible refine gate_callee (f := 18) rfl ?_); refine goesL_ (some 16) rfl rfl Try.func18 (by kernel_rfl) rfl #[.agg #[.string a0_0, .int .i64 a0_1, .int .i64 a0_2, .int .i64 a0_3, .int .i64 a0_4, .int .i64 a0_5, .slice A0_6 l0_6.length c0_6, .slice A0_7 l0_7.length c0_7]] rfl (by (try simp only [List.map_toArray, List.map_cons, List.map_nil]); first | done | rfl | (simp only [List.length_drop, List.length_take]; rfl)) ?_; (with_reducible refine (canon_Norm.calls a0_0 a0_1 a0_2 a0_3 a0_4 a0_5 _ _ l0_6 _ _ l0_7 t396 t397 t398 t399 t400 t401 t402 t405 _ ?side1 ?side2 ?side3 ?side4 A15.out).mono ?_); (case side1 => repeat (first | exact (Kd.C_below HR0_6.out HB.out) | (with_reducible refine Kd.C_alloc ?_ _) | (with_reducible refine Kd.C_drewN ?_ _) | (with_reducible refine Kd.C_drew ?_))); (case side2 => exact HC0_6.out); (case side3 => repeat (first | exact (Kd.C_below HR0_7.out HB.out) | (with_reducible refine Kd.C_alloc ?_ _) | (with_reducible refine Kd.C_drewN ?_ _) | (with_reducible refine Kd.C_drew ?_))); (case side4 => exact HC0_7.out); rintro e w18 ⟨v403, v406, rfl, ho0, ho1, hb⟩; refine ⟨_, rfl, ?_⟩; have n0_ := Am (Kd.R_lower ho0 (below_size (by repeat (first | (with_reducible first | exact HB.out | apply below_alloc | apply pw_below_drewN | apply below_drew1 | refine below_set ?_ GE392.out) | exact HB.out)))); have n1_ := Am (Kd.R_lower ho1 (below_size (by repeat (first | (with_reducible first | exact HB.out | apply below_alloc | apply pw_below_drewN | apply below_drew1 | refine below_set ?_ GE392.out) | exact HB.out)))); have n2_ := Am (blk_below (g := gb392) (o := .cells #[.string a0_0, .int .i64 a0_1, .int .i64 a0_2, .int .i64 a0_3, .int .i64 a0_4, .int .i64 a0_5, .slice A0_6 l0_6.length c0_6, .slice A0_7 l0_7.length c0_7] 25 (0, 0)) (by (with_reducible repeat (first | refine blk_drewN ?_ _ | refine blk_drew ?_ | refine blk_alloc ?_ _)); exact BK392.out) hb); have n3_ := Am (below_step (by repeat (first | (with_reducible first | exact HB.out | apply below_alloc | apply pw_below_drewN | apply below_drew1 | refine below_set ?_ GE392.out) | exact HB.out)) hb); clear BK392; clear HB; have HO404 := n0_; have HO407 := n1_; have BK392 := n2_; have HB := n3_; clear n0_ n1_ n2_ n3_; (try clear hb); (try clear hb2); (try clear hk); (try clear hi); (try clear ho0); (try clear ho1)) | ((with_reducible refine gate_dst (N := 3) rfl ?_); (try (refine gate_guard (by rfl) ?_; dsimp only)); refine box_event ?hg (N := 3) ?hd (cs := #[.string (⟨#[]⟩ : ByteArray), .int .i64 0, .int .i64 0, .int .i64 0, .int .i64 0, .int .i64 0, .slice none 0 0, .slice none 0 0]) (t := 25) ?hr ?_; (case hd => rfl); (case hg => rfl); (case hr => first | (go_simp; done) | (go_simp; rfl)); intro gb408 hg w19 hbox hb; have n0_ := Am (Kd.R_below (by (with_reducible repeat (first | apply Kd.R_alloc | apply Kd.R_drewN | apply Kd.R_drew)); exact HO404.out) hb); have n1_ := Am (Kd.R_below (by (with_reducible repeat (first | apply Kd.R_alloc | apply Kd.R_drewN | apply Kd.R_drew)); exact HO407.out) hb); have n2_ := Am (blk_below (g := gb392) (o := .cells #[.string a0_0, .int .i64 a0_1, .int .i64 a0_2, .int .i64 a0_3, .int .i64 a0_4, .int .i64 a0_5, .slice A0_6 l0_6.length c0_6, .slice A0_7 l0_7.length c0_7] 25 (0, 0)) (by (with_reducible repeat (first | refine blk_drewN ?_ _ | refine blk_drew ?_ | refine blk_alloc ?_ _)); exact BK392.out) hb); have n3_ := Am (below_step (by repeat (first | (with_reducible first | exact HB.out | apply below_alloc | apply pw_below_drewN | apply below_drew1 | refine below_set ?_ GE392.out) | exact HB.out)) hb); have n4_ := Am (hbox); have n5_ := Am ((by rw [hg]; exact (below_size (by repeat (first | (with_reducible first | exact HB.out | apply below_alloc | apply pw_below_drewN | apply below_drew1 | refine below_set ?_ GE392.out) | exact HB.out))) : w.heap.size ≤ gb408)); have n6_ := Am ((by rw [hg]; exact (below_size (by repeat (first | (with_reducible first | exact HB.out | apply below_alloc | apply pw_below_drewN | apply below_drew1 | refine below_set ?_ GE392.out) | exact HB.out))) : w.heap.size ≤ gb408)); have n7_ := Am ((by rw [hg]; exact Nat.ne_of_lt (blk_lt (g := gb392) (o := .cells #[.string a0_0, .int .i64 a0_1, .int .i64 a0_2, .int .i64 a0_3, .int .i64 a0_4, .int .i64 a0_5, .slice A0_6 l0_6.length c0_6, .slice A0_7 l0_7.length c0_7] 25 (0, 0)) (by (with_reducible repeat (first | refine blk_drewN ?_ _ | refine blk_drew ?_ | refine blk_alloc ?_ _)); exact BK392.out)) : gb392 ≠ gb408)); have n8_ := Am ((by rw [hg]; exact Nat.ne_of_gt (blk_lt (g := gb392) (o := .cells #[.string a0_0, .int .i64 a0_1, .int .i64 a0_2, .int .i64 a0_3, .int .i64 a0_4, .int .i64 a0_5, .slice A0_6 l0_6.length c0_6, .slice A0_7 l0_7.length c0_7] 25 (0, 0)) (by (with_reducible repeat (first | refine blk_drewN ?_ _ | refine blk_drew ?_ | refine blk_alloc ?_ _)); exact BK392.out)) : gb408 ≠ gb392)); clear HO404; clear HO407; clear BK392; clear HB; have HO404 := n0_; have HO407 := n1_; have BK392 := n2_; have HB := n3_; have BK408 := n4_; have GW408 := n5_; have GE408 := n6_; have NB392_408 := n7_; have NB408_392 := n8_; clear n0_ n1_ n2_ n3_ n4_ n5_ n6_ n7_ n8_; clear hb hbox hg; have hnb20 := NB408_392.out; have hnc20 := NB392_408.out; obtain ⟨hcz21_0, hcz21_1, hcz21_2, hcz21_3, hcz21_4, hcz21_5, hcz21_6, hcz21_7, hfz21_0, hfz21_1, hfz21_2, hfz21_3, hfz21_4, hfz21_5, hfz21_6, hfz21_7⟩ := blk8_ BK408.out; obtain ⟨Ao22, co22, eo22⟩ := Kd.R_slice HO404.out; subst eo22; obtain ⟨Ao23, co23, eo23⟩ := Kd.R_slice HO407.out; subst eo23))
    (try simp only [Act.put, s1_, s2_, s3_])
    go_cut [36] (fun v36 wc => ∃ (kq : Nat) (x36_15 : Bool), v36 = .bool x36_15 ∧ Aside0 (entrepotlaw08_CanonNormal.j1 kq x36_15 a0_0 a0_1 a0_2 a0_3 a0_4 a0_5 l0_6 l0_7 t396 t397 t398 t399 t400 t401 t402 t405 = some r) ∧ Aside0 (kq ≤ kj1) ∧ Aside0 (Kd.R k46 46 wc w.heap.size (fun _ => True) (.slice Ao22 t402.length co22) t402) ∧ Aside0 (Kd.R (Kd.int .i64) 3 wc w.heap.size (fun _ => True) (.slice Ao23 t405.length co23) t405) ∧ Aside0 (wc.heap[gb392]? = some (.cells #[.string a0_0, .int .i64 a0_1, .int .i64 a0_2, .int .i64 a0_3, .int .i64 a0_4, .int .i64 a0_5, (.slice A0_6 l0_6.length c0_6), (.slice A0_7 l0_7.length c0_7)] 25 (0, 0))) ∧ Aside0 (wc.heap[gb408]? = some (.cells #[.string t396, .int .i64 t397, .int .i64 t398, .int .i64 t399, .int .i64 t400, .int .i64 t401, (.slice Ao22 t402.length co22), (.slice Ao23 t405.length co23)] 25 (0, 0))) ∧ Aside0 (Below w.heap.size w wc))
    case first =>
     have H := HC16.out
     clear HC16
     replace H := Option.bind_eq_some_iff.mp H
     obtain ⟨⟨t409, t410, t411, t412, t413, t414, t415, t418⟩, A240, H⟩ := H
     replace H : ((canon_Same.f t409 t410 t411 t412 t413 t414 t415 t418 t396 t397 t398 t399 t400 t401 t402 t405).bind fun t421 => (if t421 = true then ((canon_Well.f a0_0 a0_1 a0_2 a0_3 a0_4 a0_5 l0_6 l0_7).bind fun t422 => (if t422 = true then ((canon_Well.f t396 t397 t398 t399 t400 t401 t402 t405).bind fun t423 => (if t423 = true then ((canon_Same.f a0_0 a0_1 a0_2 a0_3 a0_4 a0_5 l0_6 l0_7 a0_0 a0_1 a0_2 a0_3 a0_4 a0_5 l0_6 l0_7).bind fun t424 => (entrepotlaw08_CanonNormal.j1 kj1 (!t424) a0_0 a0_1 a0_2 a0_3 a0_4 a0_5 l0_6 l0_7 t396 t397 t398 t399 t400 t401 t402 t405)) else (entrepotlaw08_CanonNormal.j1 kj1 true a0_0 a0_1 a0_2 a0_3 a0_4 a0_5 l0_6 l0_7 t396 t397 t398 t399 t400 t401 t402 t405))) else ((canon_Same.f a0_0 a0_1 a0_2 a0_3 a0_4 a0_5 l0_6 l0_7 a0_0 a0_1 a0_2 a0_3 a0_4 a0_5 l0_6 l0_7).bind fun t425 => (entrepotlaw08_CanonNormal.j1 kj1 (!t425) a0_0 a0_1 a0_2 a0_3 a0_4 a0_5 l0_6 l0_7 t396 t397 t398 t399 t400 t401 t402 t405)))) else (entrepotlaw08_CanonNormal.j1 kj1 true a0_0 a0_1 a0_2 a0_3 a0_4 a0_5 l0_6 l0_7 t396 t397 t398 t399 t400 t401 t402 t405))) = some r := H
     have A24 := Am A240
     clear A240
     replace H := Option.bind_eq_some_iff.mp H
     obtain ⟨t421, A250, H⟩ := H
     replace H : (if t421 = true then ((canon_Well.f a0_0 a0_1 a0_2 a0_3 a0_4 a0_5 l0_6 l0_7).bind fun t422 => (if t422 = true then ((canon_Well.f t396 t397 t398 t399 t400 t401 t402 t405).bind fun t423 => (if t423 = true then ((canon_Same.f a0_0 a0_1 a0_2 a0_3 a0_4 a0_5 l0_6 l0_7 a0_0 a0_1 a0_2 a0_3 a0_4 a0_5 l0_6 l0_7).bind fun t424 => (entrepotlaw08_CanonNormal.j1 kj1 (!t424) a0_0 a0_1 a0_2 a0_3 a0_4 a0_5 l0_6 l0_7 t396 t397 t398 t399 t400 t401 t402 t405)) else (entrepotlaw08_CanonNormal.j1 kj1 true a0_0 a0_1 a0_2 a0_3 a0_4 a0_5 l0_6 l0_7 t396 t397 t398 t399 t400 t401 t402 t405))) else ((canon_Same.f a0_0 a0_1 a0_2 a0_3 a0_4 a0_5 l0_6 l0_7 a0_0 a0_1 a0_2 a0_3 a0_4 a0_5 l0_6 l0_7).bind fun t425 => (entrepotlaw08_CanonNormal.j1 kj1 (!t425) a0_0 a0_1 a0_2 a0_3 a0_4 a0_5 l0_6 l0_7 t396 t397 t398 t399 t400 t401 t402 t405)))) else (entrepotlaw08_CanonNormal.j1 kj1 true a0_0 a0_1 a0_2 a0_3 a0_4 a0_5 l0_6 l0_7 t396 t397 t398 t399 t400 t401 t402 t405)) = some r := H
     have A25 := Am A250
     clear A250
     by_cases c26 : t421 = true
     ·subst c26
      have H1 : ((canon_Well.f a0_0 a0_1 a0_2 a0_3 a0_4 a0_5 l0_6 l0_7).bind fun t422 => (if t422 = true then ((canon_Well.f t396 t397 t398 t399 t400 t401 t402 t405).bind fun t423 => (if t423 = true then ((canon_Same.f a0_0 a0_1 a0_2 a0_3 a0_4 a0_5 l0_6 l0_7 a0_0 a0_1 a0_2 a0_3 a0_4 a0_5 l0_6 l0_7).bind fun t424 => (entrepotlaw08_CanonNormal.j1 kj1 (!t424) a0_0 a0_1 a0_2 a0_3 a0_4 a0_5 l0_6 l0_7 t396 t397 t398 t399 t400 t401 t402 t405)) else (entrepotlaw08_CanonNormal.j1 kj1 true a0_0 a0_1 a0_2 a0_3 a0_4 a0_5 l0_6 l0_7 t396 t397 t398 t399 t400 t401 t402 t405))) else ((canon_Same.f a0_0 a0_1 a0_2 a0_3 a0_4 a0_5 l0_6 l0_7 a0_0 a0_1 a0_2 a0_3 a0_4 a0_5 l0_6 l0_7).bind fun t425 => (entrepotlaw08_CanonNormal.j1 kj1 (!t425) a0_0 a0_1 a0_2 a0_3 a0_4 a0_5 l0_6 l0_7 t396 t397 t398 t399 t400 t401 t402 t405)))) = some r := by rw [if_pos rfl] at H; exact H
      clear H
      have H := H1
      clear H1
      replace H := Option.bind_eq_some_iff.mp H
      obtain ⟨t422, A270, H⟩ := H
      replace H : (if t422 = true then ((canon_Well.f t396 t397 t398 t399 t400 t401 t402 t405).bind fun t423 => (if t423 = true then ((canon_Same.f a0_0 a0_1 a0_2 a0_3 a0_4 a0_5 l0_6 l0_7 a0_0 a0_1 a0_2 a0_3 a0_4 a0_5 l0_6 l0_7).bind fun t424 => (entrepotlaw08_CanonNormal.j1 kj1 (!t424) a0_0 a0_1 a0_2 a0_3 a0_4 a0_5 l0_6 l0_7 t396 t397 t398 t399 t400 t401 t402 t405)) else (entrepotlaw08_CanonNormal.j1 kj1 true a0_0 a0_1 a0_2 a0_3 a0_4 a0_5 l0_6 l0_7 t396 t397 t398 t399 t400 t401 t402 t405))) else ((canon_Same.f a0_0 a0_1 a0_2 a0_3 a0_4 a0_5 l0_6 l0_7 a0_0 a0_1 a0_2 a0_3 a0_4 a0_5 l0_6 l0_7).bind fun t425 => (entrepotlaw08_CanonNormal.j1 kj1 (!t425) a0_0 a0_1 a0_2 a0_3 a0_4 a0_5 l0_6 l0_7 t396 t397 t398 t399 t400 t401 t402 t405))) = some r := H
      have A27 := Am A270
      clear A270
      by_cases c28 : t422 = true
      ·subst c28
       have H1 : ((canon_Well.f t396 t397 t398 t399 t400 t401 t402 t405).bind fun t423 => (if t423 = true then ((canon_Same.f a0_0 a0_1 a0_2 a0_3 a0_4 a0_5 l0_6 l0_7 a0_0 a0_1 a0_2 a0_3 a0_4 a0_5 l0_6 l0_7).bind fun t424 => (entrepotlaw08_CanonNormal.j1 kj1 (!t424) a0_0 a0_1 a0_2 a0_3 a0_4 a0_5 l0_6 l0_7 t396 t397 t398 t399 t400 t401 t402 t405)) else (entrepotlaw08_CanonNormal.j1 kj1 true a0_0 a0_1 a0_2 a0_3 a0_4 a0_5 l0_6 l0_7 t396 t397 t398 t399 t400 t401 t402 t405))) = some r := by rw [if_pos rfl] at H; exact H
       clear H
       have H := H1
       clear H1
       replace H := Option.bind_eq_some_iff.mp H
       obtain ⟨t423, A290, H⟩ := H
       replace H : (if t423 = true then ((canon_Same.f a0_0 a0_1 a0_2 a0_3 a0_4 a0_5 l0_6 l0_7 a0_0 a0_1 a0_2 a0_3 a0_4 a0_5 l0_6 l0_7).bind fun t424 => (entrepotlaw08_CanonNormal.j1 kj1 (!t424) a0_0 a0_1 a0_2 a0_3 a0_4 a0_5 l0_6 l0_7 t396 t397 t398 t399 t400 t401 t402 t405)) else (entrepotlaw08_CanonNormal.j1 kj1 true a0_0 a0_1 a0_2 a0_3 a0_4 a0_5 l0_6 l0_7 t396 t397 t398 t399 t400 t401 t402 t405)) = some r := H
       have A29 := Am A290
       clear A290
       by_cases c30 : t423 = true
       ·subst c30
        have H1 : ((canon_Same.f a0_0 a0_1 a0_2 a0_3 a0_4 a0_5 l0_6 l0_7 a0_0 a0_1 a0_2 a0_3 a0_4 a0_5 l0_6 l0_7).bind fun t424 => (entrepotlaw08_CanonNormal.j1 kj1 (!t424) a0_0 a0_1 a0_2 a0_3 a0_4 a0_5 l0_6 l0_7 t396 t397 t398 t399 t400 t401 t402 t405)) = some r := by rw [if_pos rfl] at H; exact H
        clear H
        have H := H1
        clear H1
        replace H := Option.bind_eq_some_iff.mp H
        obtain ⟨t424, A310, H⟩ := H
        replace H : (entrepotlaw08_CanonNormal.j1 kj1 (!t424) a0_0 a0_1 a0_2 a0_3 a0_4 a0_5 l0_6 l0_7 t396 t397 t398 t399 t400 t401 t402 t405) = some r := H
        have A31 := Am A310
        clear A310
        have H' := Am H
        clear H
        try go_wp2
        have n0_ : Aside0 (Kd.R k46 46 ((((((((w19.setCell ⟨gb408, 0, none⟩ (.string t396)).setCell ⟨gb408, 1, none⟩ (.int .i64 t397)).setCell ⟨gb408, 2, none⟩ (.int .i64 t398)).setCell ⟨gb408, 3, none⟩ (.int .i64 t399)).setCell ⟨gb408, 4, none⟩ (.int .i64 t400)).setCell ⟨gb408, 5, none⟩ (.int .i64 t401)).setCell ⟨gb408, 6, none⟩ (.slice Ao22 t402.length co22)).setCell ⟨gb408, 7, none⟩ (.slice Ao23 t405.length co23)) w.heap.size (fun _ => True) (.slice Ao22 t402.length co22) t402) := ⟨by (with_reducible repeat (first | apply Kd.R_alloc | apply Kd.R_drewN | apply Kd.R_drew)); exact Kd.R_mono (Kd.R_far (p := ⟨gb408, 7, none⟩) (Kd.R_far (p := ⟨gb408, 6, none⟩) (Kd.R_far (p := ⟨gb408, 5, none⟩) (Kd.R_far (p := ⟨gb408, 4, none⟩) (Kd.R_far (p := ⟨gb408, 3, none⟩) (Kd.R_far (p := ⟨gb408, 2, none⟩) (Kd.R_far (p := ⟨gb408, 1, none⟩) (Kd.R_far (p := ⟨gb408, 0, none⟩) (Kd.R_types HO404.out BK408.out (by decide)) (fun _ hk => hk.2) (.string t396)) (fun _ hk => hk.2) (.int .i64 t397)) (fun _ hk => hk.2) (.int .i64 t398)) (fun _ hk => hk.2) (.int .i64 t399)) (fun _ hk => hk.2) (.int .i64 t400)) (fun _ hk => hk.2) (.int .i64 t401)) (fun _ hk => hk.2) (.slice Ao22 t402.length co22)) (fun _ hk => hk.2) (.slice Ao23 t405.length co23)) (fun _ hk => trivial)⟩
        have n1_ : Aside0 (Kd.R (Kd.int .i64) 3 ((((((((w19.setCell ⟨gb408, 0, none⟩ (.string t396)).setCell ⟨gb408, 1, none⟩ (.int .i64 t397)).setCell ⟨gb408, 2, none⟩ (.int .i64 t398)).setCell ⟨gb408, 3, none⟩ (.int .i64 t399)).setCell ⟨gb408, 4, none⟩ (.int .i64 t400)).setCell ⟨gb408, 5, none⟩ (.int .i64 t401)).setCell ⟨gb408, 6, none⟩ (.slice Ao22 t402.length co22)).setCell ⟨gb408, 7, none⟩ (.slice Ao23 t405.length co23)) w.heap.size (fun _ => True) (.slice Ao23 t405.length co23) t405) := ⟨by (with_reducible repeat (first | apply Kd.R_alloc | apply Kd.R_drewN | apply Kd.R_drew)); exact Kd.R_mono (Kd.R_far (p := ⟨gb408, 7, none⟩) (Kd.R_far (p := ⟨gb408, 6, none⟩) (Kd.R_far (p := ⟨gb408, 5, none⟩) (Kd.R_far (p := ⟨gb408, 4, none⟩) (Kd.R_far (p := ⟨gb408, 3, none⟩) (Kd.R_far (p := ⟨gb408, 2, none⟩) (Kd.R_far (p := ⟨gb408, 1, none⟩) (Kd.R_far (p := ⟨gb408, 0, none⟩) (Kd.R_types HO407.out BK408.out (by decide)) (fun _ hk => hk.2) (.string t396)) (fun _ hk => hk.2) (.int .i64 t397)) (fun _ hk => hk.2) (.int .i64 t398)) (fun _ hk => hk.2) (.int .i64 t399)) (fun _ hk => hk.2) (.int .i64 t400)) (fun _ hk => hk.2) (.int .i64 t401)) (fun _ hk => hk.2) (.slice Ao22 t402.length co22)) (fun _ hk => hk.2) (.slice Ao23 t405.length co23)) (fun _ hk => trivial)⟩
        have n2_ : Aside0 (((((((((w19.setCell ⟨gb408, 0, none⟩ (.string t396)).setCell ⟨gb408, 1, none⟩ (.int .i64 t397)).setCell ⟨gb408, 2, none⟩ (.int .i64 t398)).setCell ⟨gb408, 3, none⟩ (.int .i64 t399)).setCell ⟨gb408, 4, none⟩ (.int .i64 t400)).setCell ⟨gb408, 5, none⟩ (.int .i64 t401)).setCell ⟨gb408, 6, none⟩ (.slice Ao22 t402.length co22)).setCell ⟨gb408, 7, none⟩ (.slice Ao23 t405.length co23)).heap[gb392]? = some (.cells #[.string a0_0, .int .i64 a0_1, .int .i64 a0_2, .int .i64 a0_3, .int .i64 a0_4, .int .i64 a0_5, .slice A0_6 l0_6.length c0_6, .slice A0_7 l0_7.length c0_7] 25 (0, 0))) := ⟨by (with_reducible repeat (first | refine blk_drewN ?_ _ | refine blk_drew ?_ | refine blk_alloc ?_ _)); refine blk_far ?_ NB392_408.out _; (with_reducible repeat (first | refine blk_drewN ?_ _ | refine blk_drew ?_ | refine blk_alloc ?_ _)); refine blk_far ?_ NB392_408.out _; (with_reducible repeat (first | refine blk_drewN ?_ _ | refine blk_drew ?_ | refine blk_alloc ?_ _)); refine blk_far ?_ NB392_408.out _; (with_reducible repeat (first | refine blk_drewN ?_ _ | refine blk_drew ?_ | refine blk_alloc ?_ _)); refine blk_far ?_ NB392_408.out _; (with_reducible repeat (first | refine blk_drewN ?_ _ | refine blk_drew ?_ | refine blk_alloc ?_ _)); refine blk_far ?_ NB392_408.out _; (with_reducible repeat (first | refine blk_drewN ?_ _ | refine blk_drew ?_ | refine blk_alloc ?_ _)); refine blk_far ?_ NB392_408.out _; (with_reducible repeat (first | refine blk_drewN ?_ _ | refine blk_drew ?_ | refine blk_alloc ?_ _)); refine blk_far ?_ NB392_408.out _; (with_reducible repeat (first | refine blk_drewN ?_ _ | refine blk_drew ?_ | refine blk_alloc ?_ _)); refine blk_far ?_ NB392_408.out _; (with_reducible repeat (first | refine blk_drewN ?_ _ | refine blk_drew ?_ | refine blk_alloc ?_ _)); exact BK392.out⟩
        have n3_ : Aside0 (((((((((w19.setCell ⟨gb408, 0, none⟩ (.string t396)).setCell ⟨gb408, 1, none⟩ (.int .i64 t397)).setCell ⟨gb408, 2, none⟩ (.int .i64 t398)).setCell ⟨gb408, 3, none⟩ (.int .i64 t399)).setCell ⟨gb408, 4, none⟩ (.int .i64 t400)).setCell ⟨gb408, 5, none⟩ (.int .i64 t401)).setCell ⟨gb408, 6, none⟩ (.slice Ao22 t402.length co22)).setCell ⟨gb408, 7, none⟩ (.slice Ao23 t405.length co23)).heap[gb408]? = some (.cells #[.string t396, .int .i64 t397, .int .i64 t398, .int .i64 t399, .int .i64 t400, .int .i64 t401, .slice Ao22 t402.length co22, .slice Ao23 t405.length co23] 25 (0, 0))) := ⟨by (with_reducible repeat (first | refine blk_drewN ?_ _ | refine blk_drew ?_ | refine blk_alloc ?_ _)); refine blk_put (cs := #[.string t396, .int .i64 t397, .int .i64 t398, .int .i64 t399, .int .i64 t400, .int .i64 t401, .slice Ao22 t402.length co22, .slice none 0 0]) ?_ 7 _ rfl; (with_reducible repeat (first | refine blk_drewN ?_ _ | refine blk_drew ?_ | refine blk_alloc ?_ _)); refine blk_put (cs := #[.string t396, .int .i64 t397, .int .i64 t398, .int .i64 t399, .int .i64 t400, .int .i64 t401, .slice none 0 0, .slice none 0 0]) ?_ 6 _ rfl; (with_reducible repeat (first | refine blk_drewN ?_ _ | refine blk_drew ?_ | refine blk_alloc ?_ _)); refine blk_put (cs := #[.string t396, .int .i64 t397, .int .i64 t398, .int .i64 t399, .int .i64 t400, .int .i64 0, .slice none 0 0, .slice none 0 0]) ?_ 5 _ rfl; (with_reducible repeat (first | refine blk_drewN ?_ _ | refine blk_drew ?_ | refine blk_alloc ?_ _)); refine blk_put (cs := #[.string t396, .int .i64 t397, .int .i64 t398, .int .i64 t399, .int .i64 0, .int .i64 0, .slice none 0 0, .slice none 0 0]) ?_ 4 _ rfl; (with_reducible repeat (first | refine blk_drewN ?_ _ | refine blk_drew ?_ | refine blk_alloc ?_ _)); refine blk_put (cs := #[.string t396, .int .i64 t397, .int .i64 t398, .int .i64 0, .int .i64 0, .int .i64 0, .slice none 0 0, .slice none 0 0]) ?_ 3 _ rfl; (with_reducible repeat (first | refine blk_drewN ?_ _ | refine blk_drew ?_ | refine blk_alloc ?_ _)); refine blk_put (cs := #[.string t396, .int .i64 t397, .int .i64 0, .int .i64 0, .int .i64 0, .int .i64 0, .slice none 0 0, .slice none 0 0]) ?_ 2 _ rfl; (with_reducible repeat (first | refine blk_drewN ?_ _ | refine blk_drew ?_ | refine blk_alloc ?_ _)); refine blk_put (cs := #[.string t396, .int .i64 0, .int .i64 0, .int .i64 0, .int .i64 0, .int .i64 0, .slice none 0 0, .slice none 0 0]) ?_ 1 _ rfl; (with_reducible repeat (first | refine blk_drewN ?_ _ | refine blk_drew ?_ | refine blk_alloc ?_ _)); refine blk_put (cs := #[.string (⟨#[]⟩ : ByteArray), .int .i64 0, .int .i64 0, .int .i64 0, .int .i64 0, .int .i64 0, .slice none 0 0, .slice none 0 0]) ?_ 0 _ rfl; (with_reducible repeat (first | refine blk_drewN ?_ _ | refine blk_drew ?_ | refine blk_alloc ?_ _)); exact BK408.out⟩
        have n4_ : Aside0 (Below w.heap.size w ((((((((w19.setCell ⟨gb408, 0, none⟩ (.string t396)).setCell ⟨gb408, 1, none⟩ (.int .i64 t397)).setCell ⟨gb408, 2, none⟩ (.int .i64 t398)).setCell ⟨gb408, 3, none⟩ (.int .i64 t399)).setCell ⟨gb408, 4, none⟩ (.int .i64 t400)).setCell ⟨gb408, 5, none⟩ (.int .i64 t401)).setCell ⟨gb408, 6, none⟩ (.slice Ao22 t402.length co22)).setCell ⟨gb408, 7, none⟩ (.slice Ao23 t405.length co23))) := ⟨by repeat (first | (with_reducible first | exact HB.out | apply below_alloc | apply pw_below_drewN | apply below_drew1 | refine below_set ?_ GE392.out | refine below_set ?_ GE408.out) | exact HB.out)⟩
        (try clear HO404)
        (try clear HO407)
        (try clear BK392)
        (try clear BK408)
        (try clear HB)
        generalize ((((((((w19.setCell ⟨gb408, 0, none⟩ (.string t396)).setCell ⟨gb408, 1, none⟩ (.int .i64 t397)).setCell ⟨gb408, 2, none⟩ (.int .i64 t398)).setCell ⟨gb408, 3, none⟩ (.int .i64 t399)).setCell ⟨gb408, 4, none⟩ (.int .i64 t400)).setCell ⟨gb408, 5, none⟩ (.int .i64 t401)).setCell ⟨gb408, 6, none⟩ (.slice Ao22 t402.length co22)).setCell ⟨gb408, 7, none⟩ (.slice Ao23 t405.length co23)) = w32 at n0_ n1_ n2_ n3_ n4_ ⊢
        have HO404 := n0_
        have HO407 := n1_
        have BK392 := n2_
        have BK408 := n3_
        have HB := n4_
        clear n0_ n1_ n2_ n3_ n4_
        have n0_ := Am (Kd.R_drew HO404.out)
        have n1_ := Am (Kd.R_drew HO407.out)
        have n2_ := Am (blk_drew BK392.out)
        have n3_ := Am (blk_drew BK408.out)
        have n4_ := Am (below_drew1 HB.out)
        clear HO404
        clear HO407
        clear BK392
        clear BK408
        clear HB
        have HO404 := n0_
        have HO407 := n1_
        have BK392 := n2_
        have BK408 := n3_
        have HB := n4_
        clear n0_ n1_ n2_ n3_ n4_
        refine start_ (n := 20) (S := fun w' => w'.cell? ⟨gb408, 0, none⟩ = some (.string t396) ∧ w'.cell? ⟨gb408, 1, none⟩ = some (.int .i64 t397) ∧ w'.cell? ⟨gb408, 2, none⟩ = some (.int .i64 t398) ∧ w'.cell? ⟨gb408, 3, none⟩ = some (.int .i64 t399) ∧ w'.cell? ⟨gb408, 4, none⟩ = some (.int .i64 t400) ∧ w'.cell? ⟨gb408, 5, none⟩ = some (.int .i64 t401) ∧ w'.cell? ⟨gb408, 6, none⟩ = some (.slice Ao22 t402.length co22) ∧ w'.cell? ⟨gb408, 7, none⟩ = some (.slice Ao23 t405.length co23) ∧ w'.cell? ⟨gb392, 0, none⟩ = some (.string a0_0) ∧ w'.cell? ⟨gb392, 1, none⟩ = some (.int .i64 a0_1) ∧ w'.cell? ⟨gb392, 2, none⟩ = some (.int .i64 a0_2) ∧ w'.cell? ⟨gb392, 3, none⟩ = some (.int .i64 a0_3) ∧ w'.cell? ⟨gb392, 4, none⟩ = some (.int .i64 a0_4) ∧ w'.cell? ⟨gb392, 5, none⟩ = some (.int .i64 a0_5) ∧ w'.cell? ⟨gb392, 6, none⟩ = some (.slice A0_6 l0_6.length c0_6) ∧ w'.cell? ⟨gb392, 7, none⟩ = some (.slice A0_7 l0_7.length c0_7)) (ds := []) CN0_ (by kernel_rfl) rfl rfl ⟨(blk_cell BK408.out 0).trans rfl, (blk_cell BK408.out 1).trans rfl, (blk_cell BK408.out 2).trans rfl, (blk_cell BK408.out 3).trans rfl, (blk_cell BK408.out 4).trans rfl, (blk_cell BK408.out 5).trans rfl, (blk_cell BK408.out 6).trans rfl, (blk_cell BK408.out 7).trans rfl, (blk_cell BK392.out 0).trans rfl, (blk_cell BK392.out 1).trans rfl, (blk_cell BK392.out 2).trans rfl, (blk_cell BK392.out 3).trans rfl, (blk_cell BK392.out 4).trans rfl, (blk_cell BK392.out 5).trans rfl, (blk_cell BK392.out 6).trans rfl, (blk_cell BK392.out 7).trans rfl⟩ (fun hHeld => ?_); refine with_tabW entrepotlaw08_CanonNormal.tab4 entrepotlaw08_CanonNormal.bits4 (fun HT_ HW_ => ?_)
        generalize w32.drew = w33 at HO404 HO407 BK392 BK408 HB hHeld ⊢
        refine take_ (i := 0) (N := some 17) (v := ?_) (a' := ?_) CN1_ rfl rfl (take_ofW HT_.out HW_.out (by kernel_rfl)) (fun _ _ _ h => h) (Or.inl ⟨by rfl, ?_⟩) hHeld ?_ ?_
        rotate_left
        ·rintro w' ⟨s0, s1, s2, s3, s4, s5, s6, s7, s8, s9, s10, s11, s12, s13, s14, s15⟩
         go_simp
         with_reducible rfl
        rotate_left
        ·simp only [Act.put, s1_, s2_, s3_, i64_w, i32_w]
         rfl
        refine take_ (i := 2) (N := some 19) (v := ?_) (a' := ?_) CN2_ rfl rfl (take_ofW HT_.out HW_.out (by kernel_rfl)) (fun _ _ _ h => h) (Or.inl ⟨by rfl, ?_⟩) hHeld ?_ ?_
        rotate_left
        ·rintro w' ⟨s0, s1, s2, s3, s4, s5, s6, s7, s8, s9, s10, s11, s12, s13, s14, s15⟩
         go_simp
         with_reducible rfl
        rotate_left
        ·simp only [Act.put, s1_, s2_, s3_, i64_w, i32_w]
         rfl
        refine one_ (i := 1) (N := some 18) CN3_ rfl rfl (one_of HT_.out (by kernel_rfl)) (by decide) (fun K hK => ?_)
        refine goes_ Try.func18 (by kernel_rfl) rfl #[.agg #[.string t396, .int .i64 t397, .int .i64 t398, .int .i64 t399, .int .i64 t400, .int .i64 t401, .slice Ao22 t402.length co22, .slice Ao23 t405.length co23]] (by rfl) rfl rfl (by (try simp only [List.map_toArray, List.map_cons, List.map_nil]); first | done | rfl | (simp only [List.length_drop, List.length_take]; rfl)) ?_
        with_reducible refine (canon_Norm.calls t396 t397 t398 t399 t400 t401 _ _ t402 _ _ t405 t409 t410 t411 t412 t413 t414 t415 t418 _ ?side1 ?side2 ?side3 ?side4 A24.out).mono ?_
        (case side1 => repeat (first | exact (Kd.R_reads' HO404.out).2.2 | (with_reducible refine Kd.C_alloc ?_ _) | (with_reducible refine Kd.C_drewN ?_ _) | (with_reducible refine Kd.C_drew ?_)))
        (case side2 => exact (Kd.R_reads' HO404.out).2.1)
        (case side3 => repeat (first | exact (Kd.R_reads' HO407.out).2.2 | (with_reducible refine Kd.C_alloc ?_ _) | (with_reducible refine Kd.C_drewN ?_ _) | (with_reducible refine Kd.C_drew ?_)))
        (case side4 => exact (Kd.R_reads' HO407.out).2.1)
        rintro e w34 ⟨v416, v419, rfl, ho0, ho1, hb⟩
        refine ⟨_, rfl, ?_⟩
        have n0_ := Am (Kd.R_elder' (by (with_reducible repeat (first | apply Kd.R_alloc | apply Kd.R_drewN | apply Kd.R_drew)); exact HO404.out) (Kd.R_base ho0) hb)
        have n1_ := Am (Kd.R_elder' (by (with_reducible repeat (first | apply Kd.R_alloc | apply Kd.R_drewN | apply Kd.R_drew)); exact HO407.out) (Kd.R_base ho1) hb)
        have n2_ := Am (Kd.R_lower (Kd.R_new' ho0 (Kd.R_lt (by (with_reducible repeat (first | apply Kd.R_alloc | apply Kd.R_drewN | apply Kd.R_drew)); exact HO404.out))) (below_size (by repeat (first | (with_reducible first | exact HB.out | apply below_alloc | apply pw_below_drewN | apply below_drew1 | refine below_set ?_ GE392.out | refine below_set ?_ GE408.out) | exact HB.out))))
        have n3_ := Am (Kd.R_lower (Kd.R_new' ho1 (Kd.R_lt (by (with_reducible repeat (first | apply Kd.R_alloc | apply Kd.R_drewN | apply Kd.R_drew)); exact HO407.out))) (below_size (by repeat (first | (with_reducible first | exact HB.out | apply below_alloc | apply pw_below_drewN | apply below_drew1 | refine below_set ?_ GE392.out | refine below_set ?_ GE408.out) | exact HB.out))))
        have n4_ := Am (blk_below (g := gb392) (o := .cells #[.string a0_0, .int .i64 a0_1, .int .i64 a0_2, .int .i64 a0_3, .int .i64 a0_4, .int .i64 a0_5, .slice A0_6 l0_6.length c0_6, .slice A0_7 l0_7.length c0_7] 25 (0, 0)) (by (with_reducible repeat (first | refine blk_drewN ?_ _ | refine blk_drew ?_ | refine blk_alloc ?_ _)); exact BK392.out) hb)
        have n5_ := Am (blk_below (g := gb408) (o := .cells #[.string t396, .int .i64 t397, .int .i64 t398, .int .i64 t399, .int .i64 t400, .int .i64 t401, .slice Ao22 t402.length co22, .slice Ao23 t405.length co23] 25 (0, 0)) (by (with_reducible repeat (first | refine blk_drewN ?_ _ | refine blk_drew ?_ | refine blk_alloc ?_ _)); exact BK408.out) hb)
        have n6_ := Am (below_step (by repeat (first | (with_reducible first | exact HB.out | apply below_alloc | apply pw_below_drewN | apply below_drew1 | refine below_set ?_ GE392.out | refine below_set ?_ GE408.out) | exact HB.out)) hb)
        clear HO404
        clear HO407
        clear BK392
        clear BK408
        clear HB
        have HO404 := n0_
        have HO407 := n1_
        have HO417 := n2_
        have HO420 := n3_
        have BK392 := n4_
        have BK408 := n5_
        have HB := n6_
        clear n0_ n1_ n2_ n3_ n4_ n5_ n6_
        (try clear hb)
        (try clear hb2)
        (try clear hk)
        (try clear hi)
        (try clear ho0)
        (try clear ho1)
        obtain ⟨Ao35, co35, eo35⟩ := Kd.R_slice HO417.out
        (first | subst eo35 | (injection eo35 with f1_ f2_ f3_; have f4_ := f1_.symm; have f5_ := f3_.symm; clear f1_ f2_ f3_; subst f4_; subst f5_))
        obtain ⟨Ao36, co36, eo36⟩ := Kd.R_slice HO420.out
        (first | subst eo36 | (injection eo36 with f1_ f2_ f3_; have f4_ := f1_.symm; have f5_ := f3_.symm; clear f1_ f2_ f3_; subst f4_; subst f5_))
        refine hK.out _ _ ⟨(blk_cell BK408.out 0).trans rfl, (blk_cell BK408.out 1).trans rfl, (blk_cell BK408.out 2).trans rfl, (blk_cell BK408.out 3).trans rfl, (blk_cell BK408.out 4).trans rfl, (blk_cell BK408.out 5).trans rfl, (blk_cell BK408.out 6).trans rfl, (blk_cell BK408.out 7).trans rfl, (blk_cell BK392.out 0).trans rfl, (blk_cell BK392.out 1).trans rfl, (blk_cell BK392.out 2).trans rfl, (blk_cell BK392.out 3).trans rfl, (blk_cell BK392.out 4).trans rfl, (blk_cell BK392.out 5).trans rfl, (blk_cell BK392.out 6).trans rfl, (blk_cell BK392.out 7).trans rfl⟩ (fun hHeld => ?_)
        clear hK K
        refine norm_ (a' := ?_) ?_ ?_
        rotate_left
        ·show Act.put _ (some 18) _ = _
         simp only [Act.put, s1_, s2_, s3_, i64_w, i32_w]
         rfl
        refine one_ (i := 3) (N := some 20) CN4_ rfl rfl (one_of HT_.out (by kernel_rfl)) (by decide) (fun K hK => ?_)
        refine goes_ Try.func20 (by kernel_rfl) rfl #[.agg #[.string t409, .int .i64 t410, .int .i64 t411, .int .i64 t412, .int .i64 t413, .int .i64 t414, .slice Ao35 t415.length co35, .slice Ao36 t418.length co36], .agg #[.string t396, .int .i64 t397, .int .i64 t398, .int .i64 t399, .int .i64 t400, .int .i64 t401, .slice Ao22 t402.length co22, .slice Ao23 t405.length co23]] (by rfl) rfl rfl (by (try simp only [List.map_toArray, List.map_cons, List.map_nil]); first | done | rfl | (simp only [List.length_drop, List.length_take]; rfl)) ?_
        with_reducible refine (canon_Same.calls t409 t410 t411 t412 t413 t414 _ _ t415 _ _ t418 t396 t397 t398 t399 t400 t401 _ _ t402 _ _ t405 true _ ?side1 ?side2 ?side3 ?side4 ?side5 ?side6 ?side7 ?side8 A25.out).mono ?_
        (case side1 => repeat (first | exact (Kd.R_reads' HO417.out).2.2 | (with_reducible refine Kd.C_alloc ?_ _) | (with_reducible refine Kd.C_drewN ?_ _) | (with_reducible refine Kd.C_drew ?_)))
        (case side2 => exact (Kd.R_reads' HO417.out).2.1)
        (case side3 => repeat (first | exact (Kd.R_reads' HO420.out).2.2 | (with_reducible refine Kd.C_alloc ?_ _) | (with_reducible refine Kd.C_drewN ?_ _) | (with_reducible refine Kd.C_drew ?_)))
        (case side4 => exact (Kd.R_reads' HO420.out).2.1)
        (case side5 => repeat (first | exact (Kd.R_reads' HO404.out).2.2 | (with_reducible refine Kd.C_alloc ?_ _) | (with_reducible refine Kd.C_drewN ?_ _) | (with_reducible refine Kd.C_drew ?_)))
        (case side6 => exact (Kd.R_reads' HO404.out).2.1)
        (case side7 => repeat (first | exact (Kd.R_reads' HO407.out).2.2 | (with_reducible refine Kd.C_alloc ?_ _) | (with_reducible refine Kd.C_drewN ?_ _) | (with_reducible refine Kd.C_drew ?_)))
        (case side8 => exact (Kd.R_reads' HO407.out).2.1)
        rintro e w37 ⟨rfl, hb⟩
        refine ⟨_, rfl, ?_⟩
        have n0_ := Am (Kd.R_below (by (with_reducible repeat (first | apply Kd.R_alloc | apply Kd.R_drewN | apply Kd.R_drew)); exact HO404.out) hb)
        have n1_ := Am (Kd.R_below (by (with_reducible repeat (first | apply Kd.R_alloc | apply Kd.R_drewN | apply Kd.R_drew)); exact HO407.out) hb)
        have n2_ := Am (Kd.R_below (by (with_reducible repeat (first | apply Kd.R_alloc | apply Kd.R_drewN | apply Kd.R_drew)); exact HO417.out) hb)
        have n3_ := Am (Kd.R_below (by (with_reducible repeat (first | apply Kd.R_alloc | apply Kd.R_drewN | apply Kd.R_drew)); exact HO420.out) hb)
        have n4_ := Am (blk_below (g := gb392) (o := .cells #[.string a0_0, .int .i64 a0_1, .int .i64 a0_2, .int .i64 a0_3, .int .i64 a0_4, .int .i64 a0_5, .slice A0_6 l0_6.length c0_6, .slice A0_7 l0_7.length c0_7] 25 (0, 0)) (by (with_reducible repeat (first | refine blk_drewN ?_ _ | refine blk_drew ?_ | refine blk_alloc ?_ _)); exact BK392.out) hb)
        have n5_ := Am (blk_below (g := gb408) (o := .cells #[.string t396, .int .i64 t397, .int .i64 t398, .int .i64 t399, .int .i64 t400, .int .i64 t401, .slice Ao22 t402.length co22, .slice Ao23 t405.length co23] 25 (0, 0)) (by (with_reducible repeat (first | refine blk_drewN ?_ _ | refine blk_drew ?_ | refine blk_alloc ?_ _)); exact BK408.out) hb)
        have n6_ := Am (below_step (by repeat (first | (with_reducible first | exact HB.out | apply below_alloc | apply pw_below_drewN | apply below_drew1 | refine below_set ?_ GE392.out | refine below_set ?_ GE408.out) | exact HB.out)) hb)
        clear HO404
        clear HO407
        clear HO417
        clear HO420
        clear BK392
        clear BK408
        clear HB
        have HO404 := n0_
        have HO407 := n1_
        have HO417 := n2_
        have HO420 := n3_
        have BK392 := n4_
        have BK408 := n5_
        have HB := n6_
        clear n0_ n1_ n2_ n3_ n4_ n5_ n6_
        (try clear hb)
        (try clear hb2)
        (try clear hk)
        (try clear hi)
        refine hK.out _ _ ⟨(blk_cell BK408.out 0).trans rfl, (blk_cell BK408.out 1).trans rfl, (blk_cell BK408.out 2).trans rfl, (blk_cell BK408.out 3).trans rfl, (blk_cell BK408.out 4).trans rfl, (blk_cell BK408.out 5).trans rfl, (blk_cell BK408.out 6).trans rfl, (blk_cell BK408.out 7).trans rfl, (blk_cell BK392.out 0).trans rfl, (blk_cell BK392.out 1).trans rfl, (blk_cell BK392.out 2).trans rfl, (blk_cell BK392.out 3).trans rfl, (blk_cell BK392.out 4).trans rfl, (blk_cell BK392.out 5).trans rfl, (blk_cell BK392.out 6).trans rfl, (blk_cell BK392.out 7).trans rfl⟩ (fun hHeld => ?_)
        clear hK K
        refine norm_ (a' := ?_) ?_ ?_
        rotate_left
        ·show Act.put _ (some 20) _ = _
         simp only [Act.put, s1_, s2_, s3_, i64_w, i32_w]
         rfl
        refine pure_ (i := 4) (N := some 21) (v := ?_) (a' := ?_) CN5_ rfl rfl (any_of HT_.out (by kernel_rfl)) (fun _ _ _ h => h) (Or.inl ⟨by rfl, ?_⟩) ?_ ?_
        rotate_left
        ·intro w'
         go_simp
         with_reducible rfl
        rotate_left
        ·simp only [Act.put, s1_, s2_, s3_, i64_w, i32_w]
         rfl
        refine pure_ (i := 5) (N := some 22) (v := ?_) (a' := ?_) CN6_ rfl rfl (any_of HT_.out (by kernel_rfl)) (fun _ _ _ h => h) (Or.inl ⟨by rfl, ?_⟩) ?_ ?_
        rotate_left
        ·intro w'
         go_simp
         with_reducible rfl
        rotate_left
        ·simp only [Act.put, s1_, s2_, s3_, i64_w, i32_w]
         rfl
        refine take_ (i := 6) (N := some 23) (v := ?_) (a' := ?_) CN7_ rfl rfl (take_ofW HT_.out HW_.out (by kernel_rfl)) (fun _ _ _ h => h) (Or.inl ⟨by rfl, ?_⟩) hHeld ?_ ?_
        rotate_left
        ·rintro w' ⟨s0, s1, s2, s3, s4, s5, s6, s7, s8, s9, s10, s11, s12, s13, s14, s15⟩
         go_simp
         with_reducible rfl
        rotate_left
        ·simp only [Act.put, s1_, s2_, s3_, i64_w, i32_w]
         rfl
        refine one_ (i := 7) (N := some 24) CN8_ rfl rfl (one_of HT_.out (by kernel_rfl)) (by decide) (fun K hK => ?_)
        refine goes_ Try.func16 (by kernel_rfl) rfl #[.agg #[.string a0_0, .int .i64 a0_1, .int .i64 a0_2, .int .i64 a0_3, .int .i64 a0_4, .int .i64 a0_5, .slice A0_6 l0_6.length c0_6, .slice A0_7 l0_7.length c0_7]] (by rfl) rfl rfl (by (try simp only [List.map_toArray, List.map_cons, List.map_nil]); first | done | rfl | (simp only [List.length_drop, List.length_take]; rfl)) ?_
        with_reducible refine (canon_Well.calls a0_0 a0_1 a0_2 a0_3 a0_4 a0_5 _ _ l0_6 _ _ l0_7 true _ ?side1 ?side2 ?side3 ?side4 A27.out).mono ?_
        (case side1 => repeat (first | exact (Kd.C_below HR0_6.out HB.out) | (with_reducible refine Kd.C_alloc ?_ _) | (with_reducible refine Kd.C_drewN ?_ _) | (with_reducible refine Kd.C_drew ?_)))
        (case side2 => exact HC0_6.out)
        (case side3 => repeat (first | exact (Kd.C_below HR0_7.out HB.out) | (with_reducible refine Kd.C_alloc ?_ _) | (with_reducible refine Kd.C_drewN ?_ _) | (with_reducible refine Kd.C_drew ?_)))
        (case side4 => exact HC0_7.out)
        rintro e w38 ⟨rfl, hb⟩
        refine ⟨_, rfl, ?_⟩
        have n0_ := Am (Kd.R_below (by (with_reducible repeat (first | apply Kd.R_alloc | apply Kd.R_drewN | apply Kd.R_drew)); exact HO404.out) hb)
        have n1_ := Am (Kd.R_below (by (with_reducible repeat (first | apply Kd.R_alloc | apply Kd.R_drewN | apply Kd.R_drew)); exact HO407.out) hb)
        have n2_ := Am (Kd.R_below (by (with_reducible repeat (first | apply Kd.R_alloc | apply Kd.R_drewN | apply Kd.R_drew)); exact HO417.out) hb)
        have n3_ := Am (Kd.R_below (by (with_reducible repeat (first | apply Kd.R_alloc | apply Kd.R_drewN | apply Kd.R_drew)); exact HO420.out) hb)
        have n4_ := Am (blk_below (g := gb392) (o := .cells #[.string a0_0, .int .i64 a0_1, .int .i64 a0_2, .int .i64 a0_3, .int .i64 a0_4, .int .i64 a0_5, .slice A0_6 l0_6.length c0_6, .slice A0_7 l0_7.length c0_7] 25 (0, 0)) (by (with_reducible repeat (first | refine blk_drewN ?_ _ | refine blk_drew ?_ | refine blk_alloc ?_ _)); exact BK392.out) hb)
        have n5_ := Am (blk_below (g := gb408) (o := .cells #[.string t396, .int .i64 t397, .int .i64 t398, .int .i64 t399, .int .i64 t400, .int .i64 t401, .slice Ao22 t402.length co22, .slice Ao23 t405.length co23] 25 (0, 0)) (by (with_reducible repeat (first | refine blk_drewN ?_ _ | refine blk_drew ?_ | refine blk_alloc ?_ _)); exact BK408.out) hb)
        have n6_ := Am (below_step (by repeat (first | (with_reducible first | exact HB.out | apply below_alloc | apply pw_below_drewN | apply below_drew1 | refine below_set ?_ GE392.out | refine below_set ?_ GE408.out) | exact HB.out)) hb)
        clear HO404
        clear HO407
        clear HO417
        clear HO420
        clear BK392
        clear BK408
        clear HB
        have HO404 := n0_
        have HO407 := n1_
        have HO417 := n2_
        have HO420 := n3_
        have BK392 := n4_
        have BK408 := n5_
        have HB := n6_
        clear n0_ n1_ n2_ n3_ n4_ n5_ n6_
        (try clear hb)
        (try clear hb2)
        (try clear hk)
        (try clear hi)
        refine hK.out _ _ ⟨(blk_cell BK408.out 0).trans rfl, (blk_cell BK408.out 1).trans rfl, (blk_cell BK408.out 2).trans rfl, (blk_cell BK408.out 3).trans rfl, (blk_cell BK408.out 4).trans rfl, (blk_cell BK408.out 5).trans rfl, (blk_cell BK408.out 6).trans rfl, (blk_cell BK408.out 7).trans rfl, (blk_cell BK392.out 0).trans rfl, (blk_cell BK392.out 1).trans rfl, (blk_cell BK392.out 2).trans rfl, (blk_cell BK392.out 3).trans rfl, (blk_cell BK392.out 4).trans rfl, (blk_cell BK392.out 5).trans rfl, (blk_cell BK392.out 6).trans rfl, (blk_cell BK392.out 7).trans rfl⟩ (fun hHeld => ?_)
        clear hK K
        refine norm_ (a' := ?_) ?_ ?_
        rotate_left
        ·show Act.put _ (some 24) _ = _
         simp only [Act.put, s1_, s2_, s3_, i64_w, i32_w]
         rfl
        refine pure_ (i := 8) (N := some 25) (v := ?_) (a' := ?_) CN9_ rfl rfl (any_of HT_.out (by kernel_rfl)) (fun _ _ _ h => h) (Or.inl ⟨by rfl, ?_⟩) ?_ ?_
        rotate_left
        ·intro w'
         go_simp
         with_reducible rfl
        rotate_left
        ·simp only [Act.put, s1_, s2_, s3_, i64_w, i32_w]
         rfl
        refine take_ (i := 9) (N := some 26) (v := ?_) (a' := ?_) CN10_ rfl rfl (take_ofW HT_.out HW_.out (by kernel_rfl)) (fun _ _ _ h => h) (Or.inl ⟨by rfl, ?_⟩) hHeld ?_ ?_
        rotate_left
        ·rintro w' ⟨s0, s1, s2, s3, s4, s5, s6, s7, s8, s9, s10, s11, s12, s13, s14, s15⟩
         go_simp
         with_reducible rfl
        rotate_left
        ·simp only [Act.put, s1_, s2_, s3_, i64_w, i32_w]
         rfl
        refine one_ (i := 10) (N := some 27) CN11_ rfl rfl (one_of HT_.out (by kernel_rfl)) (by decide) (fun K hK => ?_)
        refine goes_ Try.func16 (by kernel_rfl) rfl #[.agg #[.string t396, .int .i64 t397, .int .i64 t398, .int .i64 t399, .int .i64 t400, .int .i64 t401, .slice Ao22 t402.length co22, .slice Ao23 t405.length co23]] (by rfl) rfl rfl (by (try simp only [List.map_toArray, List.map_cons, List.map_nil]); first | done | rfl | (simp only [List.length_drop, List.length_take]; rfl)) ?_
        with_reducible refine (canon_Well.calls t396 t397 t398 t399 t400 t401 _ _ t402 _ _ t405 true _ ?side1 ?side2 ?side3 ?side4 A29.out).mono ?_
        (case side1 => repeat (first | exact (Kd.R_reads' HO404.out).2.2 | (with_reducible refine Kd.C_alloc ?_ _) | (with_reducible refine Kd.C_drewN ?_ _) | (with_reducible refine Kd.C_drew ?_)))
        (case side2 => exact (Kd.R_reads' HO404.out).2.1)
        (case side3 => repeat (first | exact (Kd.R_reads' HO407.out).2.2 | (with_reducible refine Kd.C_alloc ?_ _) | (with_reducible refine Kd.C_drewN ?_ _) | (with_reducible refine Kd.C_drew ?_)))
        (case side4 => exact (Kd.R_reads' HO407.out).2.1)
        rintro e w39 ⟨rfl, hb⟩
        refine ⟨_, rfl, ?_⟩
        have n0_ := Am (Kd.R_below (by (with_reducible repeat (first | apply Kd.R_alloc | apply Kd.R_drewN | apply Kd.R_drew)); exact HO404.out) hb)
        have n1_ := Am (Kd.R_below (by (with_reducible repeat (first | apply Kd.R_alloc | apply Kd.R_drewN | apply Kd.R_drew)); exact HO407.out) hb)
        have n2_ := Am (Kd.R_below (by (with_reducible repeat (first | apply Kd.R_alloc | apply Kd.R_drewN | apply Kd.R_drew)); exact HO417.out) hb)
        have n3_ := Am (Kd.R_below (by (with_reducible repeat (first | apply Kd.R_alloc | apply Kd.R_drewN | apply Kd.R_drew)); exact HO420.out) hb)
        have n4_ := Am (blk_below (g := gb392) (o := .cells #[.string a0_0, .int .i64 a0_1, .int .i64 a0_2, .int .i64 a0_3, .int .i64 a0_4, .int .i64 a0_5, .slice A0_6 l0_6.length c0_6, .slice A0_7 l0_7.length c0_7] 25 (0, 0)) (by (with_reducible repeat (first | refine blk_drewN ?_ _ | refine blk_drew ?_ | refine blk_alloc ?_ _)); exact BK392.out) hb)
        have n5_ := Am (blk_below (g := gb408) (o := .cells #[.string t396, .int .i64 t397, .int .i64 t398, .int .i64 t399, .int .i64 t400, .int .i64 t401, .slice Ao22 t402.length co22, .slice Ao23 t405.length co23] 25 (0, 0)) (by (with_reducible repeat (first | refine blk_drewN ?_ _ | refine blk_drew ?_ | refine blk_alloc ?_ _)); exact BK408.out) hb)
        have n6_ := Am (below_step (by repeat (first | (with_reducible first | exact HB.out | apply below_alloc | apply pw_below_drewN | apply below_drew1 | refine below_set ?_ GE392.out | refine below_set ?_ GE408.out) | exact HB.out)) hb)
        clear HO404
        clear HO407
        clear HO417
        clear HO420
        clear BK392
        clear BK408
        clear HB
        have HO404 := n0_
        have HO407 := n1_
        have HO417 := n2_
        have HO420 := n3_
        have BK392 := n4_
        have BK408 := n5_
        have HB := n6_
        clear n0_ n1_ n2_ n3_ n4_ n5_ n6_
        (try clear hb)
        (try clear hb2)
        (try clear hk)
        (try clear hi)
        refine hK.out _ _ ⟨(blk_cell BK408.out 0).trans rfl, (blk_cell BK408.out 1).trans rfl, (blk_cell BK408.out 2).trans rfl, (blk_cell BK408.out 3).trans rfl, (blk_cell BK408.out 4).trans rfl, (blk_cell BK408.out 5).trans rfl, (blk_cell BK408.out 6).trans rfl, (blk_cell BK408.out 7).trans rfl, (blk_cell BK392.out 0).trans rfl, (blk_cell BK392.out 1).trans rfl, (blk_cell BK392.out 2).trans rfl, (blk_cell BK392.out 3).trans rfl, (blk_cell BK392.out 4).trans rfl, (blk_cell BK392.out 5).trans rfl, (blk_cell BK392.out 6).trans rfl, (blk_cell BK392.out 7).trans rfl⟩ (fun hHeld => ?_)
        clear hK K
        refine norm_ (a' := ?_) ?_ ?_
        rotate_left
        ·show Act.put _ (some 27) _ = _
         simp only [Act.put, s1_, s2_, s3_, i64_w, i32_w]
         rfl
        refine pure_ (i := 11) (N := some 28) (v := ?_) (a' := ?_) CN12_ rfl rfl (any_of HT_.out (by kernel_rfl)) (fun _ _ _ h => h) (Or.inl ⟨by rfl, ?_⟩) ?_ ?_
        rotate_left
        ·intro w'
         go_simp
         with_reducible rfl
        rotate_left
        ·simp only [Act.put, s1_, s2_, s3_, i64_w, i32_w]
         rfl
        refine pure_ (i := 12) (N := some 29) (v := ?_) (a' := ?_) CN13_ rfl rfl (any_of HT_.out (by kernel_rfl)) (fun _ _ _ h => h) (Or.inl ⟨by rfl, ?_⟩) ?_ ?_
        rotate_left
        ·intro w'
         go_simp
         with_reducible rfl
        rotate_left
        ·simp only [Act.put, s1_, s2_, s3_, i64_w, i32_w]
         rfl
        refine pure_ (i := 13) (N := some 30) (v := ?_) (a' := ?_) CN14_ rfl rfl (any_of HT_.out (by kernel_rfl)) (fun _ _ _ h => h) (Or.inl ⟨by rfl, ?_⟩) ?_ ?_
        rotate_left
        ·intro w'
         go_simp
         with_reducible rfl
        rotate_left
        ·simp only [Act.put, s1_, s2_, s3_, i64_w, i32_w]
         rfl
        refine pure_ (i := 14) (N := some 31) (v := ?_) (a' := ?_) CN15_ rfl rfl (any_of HT_.out (by kernel_rfl)) (fun _ _ _ h => h) (Or.inl ⟨by rfl, ?_⟩) ?_ ?_
        rotate_left
        ·intro w'
         go_simp
         with_reducible rfl
        rotate_left
        ·simp only [Act.put, s1_, s2_, s3_, i64_w, i32_w]
         rfl
        refine take_ (i := 15) (N := some 32) (v := ?_) (a' := ?_) CN16_ rfl rfl (take_ofW HT_.out HW_.out (by kernel_rfl)) (fun _ _ _ h => h) (Or.inl ⟨by rfl, ?_⟩) hHeld ?_ ?_
        rotate_left
        ·rintro w' ⟨s0, s1, s2, s3, s4, s5, s6, s7, s8, s9, s10, s11, s12, s13, s14, s15⟩
         go_simp
         with_reducible rfl
        rotate_left
        ·simp only [Act.put, s1_, s2_, s3_, i64_w, i32_w]
         rfl
        refine take_ (i := 16) (N := some 33) (v := ?_) (a' := ?_) CN17_ rfl rfl (take_ofW HT_.out HW_.out (by kernel_rfl)) (fun _ _ _ h => h) (Or.inl ⟨by rfl, ?_⟩) hHeld ?_ ?_
        rotate_left
        ·rintro w' ⟨s0, s1, s2, s3, s4, s5, s6, s7, s8, s9, s10, s11, s12, s13, s14, s15⟩
         go_simp
         with_reducible rfl
        rotate_left
        ·simp only [Act.put, s1_, s2_, s3_, i64_w, i32_w]
         rfl
        refine one_ (i := 17) (N := some 34) CN18_ rfl rfl (one_of HT_.out (by kernel_rfl)) (by decide) (fun K hK => ?_)
        refine goes_ Try.func20 (by kernel_rfl) rfl #[.agg #[.string a0_0, .int .i64 a0_1, .int .i64 a0_2, .int .i64 a0_3, .int .i64 a0_4, .int .i64 a0_5, .slice A0_6 l0_6.length c0_6, .slice A0_7 l0_7.length c0_7], .agg #[.string a0_0, .int .i64 a0_1, .int .i64 a0_2, .int .i64 a0_3, .int .i64 a0_4, .int .i64 a0_5, .slice A0_6 l0_6.length c0_6, .slice A0_7 l0_7.length c0_7]] (by rfl) rfl rfl (by (try simp only [List.map_toArray, List.map_cons, List.map_nil]); first | done | rfl | (simp only [List.length_drop, List.length_take]; rfl)) ?_
        with_reducible refine (canon_Same.calls a0_0 a0_1 a0_2 a0_3 a0_4 a0_5 _ _ l0_6 _ _ l0_7 a0_0 a0_1 a0_2 a0_3 a0_4 a0_5 _ _ l0_6 _ _ l0_7 t424 _ ?side1 ?side2 ?side3 ?side4 ?side5 ?side6 ?side7 ?side8 A31.out).mono ?_
        (case side1 => repeat (first | exact (Kd.C_below HR0_6.out HB.out) | (with_reducible refine Kd.C_alloc ?_ _) | (with_reducible refine Kd.C_drewN ?_ _) | (with_reducible refine Kd.C_drew ?_)))
        (case side2 => exact HC0_6.out)
        (case side3 => repeat (first | exact (Kd.C_below HR0_7.out HB.out) | (with_reducible refine Kd.C_alloc ?_ _) | (with_reducible refine Kd.C_drewN ?_ _) | (with_reducible refine Kd.C_drew ?_)))
        (case side4 => exact HC0_7.out)
        (case side5 => repeat (first | exact (Kd.C_below HR0_6.out HB.out) | (with_reducible refine Kd.C_alloc ?_ _) | (with_reducible refine Kd.C_drewN ?_ _) | (with_reducible refine Kd.C_drew ?_)))
        (case side6 => exact HC0_6.out)
        (case side7 => repeat (first | exact (Kd.C_below HR0_7.out HB.out) | (with_reducible refine Kd.C_alloc ?_ _) | (with_reducible refine Kd.C_drewN ?_ _) | (with_reducible refine Kd.C_drew ?_)))
        (case side8 => exact HC0_7.out)
        rintro e w40 ⟨rfl, hb⟩
        refine ⟨_, rfl, ?_⟩
        have n0_ := Am (Kd.R_below (by (with_reducible repeat (first | apply Kd.R_alloc | apply Kd.R_drewN | apply Kd.R_drew)); exact HO404.out) hb)
        have n1_ := Am (Kd.R_below (by (with_reducible repeat (first | apply Kd.R_alloc | apply Kd.R_drewN | apply Kd.R_drew)); exact HO407.out) hb)
        have n2_ := Am (Kd.R_below (by (with_reducible repeat (first | apply Kd.R_alloc | apply Kd.R_drewN | apply Kd.R_drew)); exact HO417.out) hb)
        have n3_ := Am (Kd.R_below (by (with_reducible repeat (first | apply Kd.R_alloc | apply Kd.R_drewN | apply Kd.R_drew)); exact HO420.out) hb)
        have n4_ := Am (blk_below (g := gb392) (o := .cells #[.string a0_0, .int .i64 a0_1, .int .i64 a0_2, .int .i64 a0_3, .int .i64 a0_4, .int .i64 a0_5, .slice A0_6 l0_6.length c0_6, .slice A0_7 l0_7.length c0_7] 25 (0, 0)) (by (with_reducible repeat (first | refine blk_drewN ?_ _ | refine blk_drew ?_ | refine blk_alloc ?_ _)); exact BK392.out) hb)
        have n5_ := Am (blk_below (g := gb408) (o := .cells #[.string t396, .int .i64 t397, .int .i64 t398, .int .i64 t399, .int .i64 t400, .int .i64 t401, .slice Ao22 t402.length co22, .slice Ao23 t405.length co23] 25 (0, 0)) (by (with_reducible repeat (first | refine blk_drewN ?_ _ | refine blk_drew ?_ | refine blk_alloc ?_ _)); exact BK408.out) hb)
        have n6_ := Am (below_step (by repeat (first | (with_reducible first | exact HB.out | apply below_alloc | apply pw_below_drewN | apply below_drew1 | refine below_set ?_ GE392.out | refine below_set ?_ GE408.out) | exact HB.out)) hb)
        clear HO404
        clear HO407
        clear HO417
        clear HO420
        clear BK392
        clear BK408
        clear HB
        have HO404 := n0_
        have HO407 := n1_
        have HO417 := n2_
        have HO420 := n3_
        have BK392 := n4_
        have BK408 := n5_
        have HB := n6_
        clear n0_ n1_ n2_ n3_ n4_ n5_ n6_
        (try clear hb)
        (try clear hb2)
        (try clear hk)
        (try clear hi)
        refine hK.out _ _ ⟨(blk_cell BK408.out 0).trans rfl, (blk_cell BK408.out 1).trans rfl, (blk_cell BK408.out 2).trans rfl, (blk_cell BK408.out 3).trans rfl, (blk_cell BK408.out 4).trans rfl, (blk_cell BK408.out 5).trans rfl, (blk_cell BK408.out 6).trans rfl, (blk_cell BK408.out 7).trans rfl, (blk_cell BK392.out 0).trans rfl, (blk_cell BK392.out 1).trans rfl, (blk_cell BK392.out 2).trans rfl, (blk_cell BK392.out 3).trans rfl, (blk_cell BK392.out 4).trans rfl, (blk_cell BK392.out 5).trans rfl, (blk_cell BK392.out 6).trans rfl, (blk_cell BK392.out 7).trans rfl⟩ (fun hHeld => ?_)
        clear hK K
        refine norm_ (a' := ?_) ?_ ?_
        rotate_left
        ·show Act.put _ (some 34) _ = _
         simp only [Act.put, s1_, s2_, s3_, i64_w, i32_w]
         rfl
        refine pure_ (i := 18) (N := some 35) (v := ?_) (a' := ?_) CN19_ rfl rfl (any_of HT_.out (by kernel_rfl)) (fun _ _ _ h => h) (Or.inl ⟨by rfl, ?_⟩) ?_ ?_
        rotate_left
        ·intro w'
         go_simp
         with_reducible rfl
        rotate_left
        ·simp only [Act.put, s1_, s2_, s3_, i64_w, i32_w]
         rfl
        refine pure_ (i := 19) (N := some 36) (v := ?_) (a' := ?_) CN20_ rfl rfl (any_of HT_.out (by kernel_rfl)) (fun _ _ _ h => h) (Or.inl ⟨by rfl, ?_⟩) ?_ ?_
        rotate_left
        ·intro w'
         go_simp
         with_reducible rfl
        rotate_left
        ·simp only [Act.put, s1_, s2_, s3_, i64_w, i32_w]
         rfl
        refine done_ (done_of HT_.out (by kernel_rfl)) ?_
        try go_wp2
        go_meet
        case rel => exact ⟨_, (!t424), (by first | rfl | (simp; done) | (simp [*]; done)), H', ⟨by have := HJ1.out; first | omega | exact Nat.le_refl _⟩, ⟨by (with_reducible repeat (first | apply Kd.R_alloc | apply Kd.R_drewN | apply Kd.R_drew)); exact Kd.R_mono HO404.out (fun _ hk => trivial)⟩, ⟨by (with_reducible repeat (first | apply Kd.R_alloc | apply Kd.R_drewN | apply Kd.R_drew)); exact Kd.R_mono HO407.out (fun _ hk => trivial)⟩, ⟨by (with_reducible repeat (first | refine blk_drewN ?_ _ | refine blk_drew ?_ | refine blk_alloc ?_ _)); exact BK392.out⟩, ⟨by (with_reducible repeat (first | refine blk_drewN ?_ _ | refine blk_drew ?_ | refine blk_alloc ?_ _)); exact BK408.out⟩, ⟨by repeat (first | (with_reducible first | exact HB.out | apply below_alloc | apply pw_below_drewN | apply below_drew1 | refine below_set ?_ GE392.out | refine below_set ?_ GE408.out) | exact HB.out)⟩⟩
       ·replace c30 := Bool.eq_false_iff.mpr c30
        subst c30
        have H1 : (entrepotlaw08_CanonNormal.j1 kj1 true a0_0 a0_1 a0_2 a0_3 a0_4 a0_5 l0_6 l0_7 t396 t397 t398 t399 t400 t401 t402 t405) = some r := by rw [if_neg (show ¬ (false = true) by decide)] at H; exact H
        clear H
        have H := H1
        clear H1
        have H' := Am H
        clear H
        try go_wp2
        have n0_ : Aside0 (Kd.R k46 46 ((((((((w19.setCell ⟨gb408, 0, none⟩ (.string t396)).setCell ⟨gb408, 1, none⟩ (.int .i64 t397)).setCell ⟨gb408, 2, none⟩ (.int .i64 t398)).setCell ⟨gb408, 3, none⟩ (.int .i64 t399)).setCell ⟨gb408, 4, none⟩ (.int .i64 t400)).setCell ⟨gb408, 5, none⟩ (.int .i64 t401)).setCell ⟨gb408, 6, none⟩ (.slice Ao22 t402.length co22)).setCell ⟨gb408, 7, none⟩ (.slice Ao23 t405.length co23)) w.heap.size (fun _ => True) (.slice Ao22 t402.length co22) t402) := ⟨by (with_reducible repeat (first | apply Kd.R_alloc | apply Kd.R_drewN | apply Kd.R_drew)); exact Kd.R_mono (Kd.R_far (p := ⟨gb408, 7, none⟩) (Kd.R_far (p := ⟨gb408, 6, none⟩) (Kd.R_far (p := ⟨gb408, 5, none⟩) (Kd.R_far (p := ⟨gb408, 4, none⟩) (Kd.R_far (p := ⟨gb408, 3, none⟩) (Kd.R_far (p := ⟨gb408, 2, none⟩) (Kd.R_far (p := ⟨gb408, 1, none⟩) (Kd.R_far (p := ⟨gb408, 0, none⟩) (Kd.R_types HO404.out BK408.out (by decide)) (fun _ hk => hk.2) (.string t396)) (fun _ hk => hk.2) (.int .i64 t397)) (fun _ hk => hk.2) (.int .i64 t398)) (fun _ hk => hk.2) (.int .i64 t399)) (fun _ hk => hk.2) (.int .i64 t400)) (fun _ hk => hk.2) (.int .i64 t401)) (fun _ hk => hk.2) (.slice Ao22 t402.length co22)) (fun _ hk => hk.2) (.slice Ao23 t405.length co23)) (fun _ hk => trivial)⟩
        have n1_ : Aside0 (Kd.R (Kd.int .i64) 3 ((((((((w19.setCell ⟨gb408, 0, none⟩ (.string t396)).setCell ⟨gb408, 1, none⟩ (.int .i64 t397)).setCell ⟨gb408, 2, none⟩ (.int .i64 t398)).setCell ⟨gb408, 3, none⟩ (.int .i64 t399)).setCell ⟨gb408, 4, none⟩ (.int .i64 t400)).setCell ⟨gb408, 5, none⟩ (.int .i64 t401)).setCell ⟨gb408, 6, none⟩ (.slice Ao22 t402.length co22)).setCell ⟨gb408, 7, none⟩ (.slice Ao23 t405.length co23)) w.heap.size (fun _ => True) (.slice Ao23 t405.length co23) t405) := ⟨by (with_reducible repeat (first | apply Kd.R_alloc | apply Kd.R_drewN | apply Kd.R_drew)); exact Kd.R_mono (Kd.R_far (p := ⟨gb408, 7, none⟩) (Kd.R_far (p := ⟨gb408, 6, none⟩) (Kd.R_far (p := ⟨gb408, 5, none⟩) (Kd.R_far (p := ⟨gb408, 4, none⟩) (Kd.R_far (p := ⟨gb408, 3, none⟩) (Kd.R_far (p := ⟨gb408, 2, none⟩) (Kd.R_far (p := ⟨gb408, 1, none⟩) (Kd.R_far (p := ⟨gb408, 0, none⟩) (Kd.R_types HO407.out BK408.out (by decide)) (fun _ hk => hk.2) (.string t396)) (fun _ hk => hk.2) (.int .i64 t397)) (fun _ hk => hk.2) (.int .i64 t398)) (fun _ hk => hk.2) (.int .i64 t399)) (fun _ hk => hk.2) (.int .i64 t400)) (fun _ hk => hk.2) (.int .i64 t401)) (fun _ hk => hk.2) (.slice Ao22 t402.length co22)) (fun _ hk => hk.2) (.slice Ao23 t405.length co23)) (fun _ hk => trivial)⟩
        have n2_ : Aside0 (((((((((w19.setCell ⟨gb408, 0, none⟩ (.string t396)).setCell ⟨gb408, 1, none⟩ (.int .i64 t397)).setCell ⟨gb408, 2, none⟩ (.int .i64 t398)).setCell ⟨gb408, 3, none⟩ (.int .i64 t399)).setCell ⟨gb408, 4, none⟩ (.int .i64 t400)).setCell ⟨gb408, 5, none⟩ (.int .i64 t401)).setCell ⟨gb408, 6, none⟩ (.slice Ao22 t402.length co22)).setCell ⟨gb408, 7, none⟩ (.slice Ao23 t405.length co23)).heap[gb392]? = some (.cells #[.string a0_0, .int .i64 a0_1, .int .i64 a0_2, .int .i64 a0_3, .int .i64 a0_4, .int .i64 a0_5, .slice A0_6 l0_6.length c0_6, .slice A0_7 l0_7.length c0_7] 25 (0, 0))) := ⟨by (with_reducible repeat (first | refine blk_drewN ?_ _ | refine blk_drew ?_ | refine blk_alloc ?_ _)); refine blk_far ?_ NB392_408.out _; (with_reducible repeat (first | refine blk_drewN ?_ _ | refine blk_drew ?_ | refine blk_alloc ?_ _)); refine blk_far ?_ NB392_408.out _; (with_reducible repeat (first | refine blk_drewN ?_ _ | refine blk_drew ?_ | refine blk_alloc ?_ _)); refine blk_far ?_ NB392_408.out _; (with_reducible repeat (first | refine blk_drewN ?_ _ | refine blk_drew ?_ | refine blk_alloc ?_ _)); refine blk_far ?_ NB392_408.out _; (with_reducible repeat (first | refine blk_drewN ?_ _ | refine blk_drew ?_ | refine blk_alloc ?_ _)); refine blk_far ?_ NB392_408.out _; (with_reducible repeat (first | refine blk_drewN ?_ _ | refine blk_drew ?_ | refine blk_alloc ?_ _)); refine blk_far ?_ NB392_408.out _; (with_reducible repeat (first | refine blk_drewN ?_ _ | refine blk_drew ?_ | refine blk_alloc ?_ _)); refine blk_far ?_ NB392_408.out _; (with_reducible repeat (first | refine blk_drewN ?_ _ | refine blk_drew ?_ | refine blk_alloc ?_ _)); refine blk_far ?_ NB392_408.out _; (with_reducible repeat (first | refine blk_drewN ?_ _ | refine blk_drew ?_ | refine blk_alloc ?_ _)); exact BK392.out⟩
        have n3_ : Aside0 (((((((((w19.setCell ⟨gb408, 0, none⟩ (.string t396)).setCell ⟨gb408, 1, none⟩ (.int .i64 t397)).setCell ⟨gb408, 2, none⟩ (.int .i64 t398)).setCell ⟨gb408, 3, none⟩ (.int .i64 t399)).setCell ⟨gb408, 4, none⟩ (.int .i64 t400)).setCell ⟨gb408, 5, none⟩ (.int .i64 t401)).setCell ⟨gb408, 6, none⟩ (.slice Ao22 t402.length co22)).setCell ⟨gb408, 7, none⟩ (.slice Ao23 t405.length co23)).heap[gb408]? = some (.cells #[.string t396, .int .i64 t397, .int .i64 t398, .int .i64 t399, .int .i64 t400, .int .i64 t401, .slice Ao22 t402.length co22, .slice Ao23 t405.length co23] 25 (0, 0))) := ⟨by (with_reducible repeat (first | refine blk_drewN ?_ _ | refine blk_drew ?_ | refine blk_alloc ?_ _)); refine blk_put (cs := #[.string t396, .int .i64 t397, .int .i64 t398, .int .i64 t399, .int .i64 t400, .int .i64 t401, .slice Ao22 t402.length co22, .slice none 0 0]) ?_ 7 _ rfl; (with_reducible repeat (first | refine blk_drewN ?_ _ | refine blk_drew ?_ | refine blk_alloc ?_ _)); refine blk_put (cs := #[.string t396, .int .i64 t397, .int .i64 t398, .int .i64 t399, .int .i64 t400, .int .i64 t401, .slice none 0 0, .slice none 0 0]) ?_ 6 _ rfl; (with_reducible repeat (first | refine blk_drewN ?_ _ | refine blk_drew ?_ | refine blk_alloc ?_ _)); refine blk_put (cs := #[.string t396, .int .i64 t397, .int .i64 t398, .int .i64 t399, .int .i64 t400, .int .i64 0, .slice none 0 0, .slice none 0 0]) ?_ 5 _ rfl; (with_reducible repeat (first | refine blk_drewN ?_ _ | refine blk_drew ?_ | refine blk_alloc ?_ _)); refine blk_put (cs := #[.string t396, .int .i64 t397, .int .i64 t398, .int .i64 t399, .int .i64 0, .int .i64 0, .slice none 0 0, .slice none 0 0]) ?_ 4 _ rfl; (with_reducible repeat (first | refine blk_drewN ?_ _ | refine blk_drew ?_ | refine blk_alloc ?_ _)); refine blk_put (cs := #[.string t396, .int .i64 t397, .int .i64 t398, .int .i64 0, .int .i64 0, .int .i64 0, .slice none 0 0, .slice none 0 0]) ?_ 3 _ rfl; (with_reducible repeat (first | refine blk_drewN ?_ _ | refine blk_drew ?_ | refine blk_alloc ?_ _)); refine blk_put (cs := #[.string t396, .int .i64 t397, .int .i64 0, .int .i64 0, .int .i64 0, .int .i64 0, .slice none 0 0, .slice none 0 0]) ?_ 2 _ rfl; (with_reducible repeat (first | refine blk_drewN ?_ _ | refine blk_drew ?_ | refine blk_alloc ?_ _)); refine blk_put (cs := #[.string t396, .int .i64 0, .int .i64 0, .int .i64 0, .int .i64 0, .int .i64 0, .slice none 0 0, .slice none 0 0]) ?_ 1 _ rfl; (with_reducible repeat (first | refine blk_drewN ?_ _ | refine blk_drew ?_ | refine blk_alloc ?_ _)); refine blk_put (cs := #[.string (⟨#[]⟩ : ByteArray), .int .i64 0, .int .i64 0, .int .i64 0, .int .i64 0, .int .i64 0, .slice none 0 0, .slice none 0 0]) ?_ 0 _ rfl; (with_reducible repeat (first | refine blk_drewN ?_ _ | refine blk_drew ?_ | refine blk_alloc ?_ _)); exact BK408.out⟩
        have n4_ : Aside0 (Below w.heap.size w ((((((((w19.setCell ⟨gb408, 0, none⟩ (.string t396)).setCell ⟨gb408, 1, none⟩ (.int .i64 t397)).setCell ⟨gb408, 2, none⟩ (.int .i64 t398)).setCell ⟨gb408, 3, none⟩ (.int .i64 t399)).setCell ⟨gb408, 4, none⟩ (.int .i64 t400)).setCell ⟨gb408, 5, none⟩ (.int .i64 t401)).setCell ⟨gb408, 6, none⟩ (.slice Ao22 t402.length co22)).setCell ⟨gb408, 7, none⟩ (.slice Ao23 t405.length co23))) := ⟨by repeat (first | (with_reducible first | exact HB.out | apply below_alloc | apply pw_below_drewN | apply below_drew1 | refine below_set ?_ GE392.out | refine below_set ?_ GE408.out) | exact HB.out)⟩
        (try clear HO404)
        (try clear HO407)
        (try clear BK392)
        (try clear BK408)
        (try clear HB)
        generalize ((((((((w19.setCell ⟨gb408, 0, none⟩ (.string t396)).setCell ⟨gb408, 1, none⟩ (.int .i64 t397)).setCell ⟨gb408, 2, none⟩ (.int .i64 t398)).setCell ⟨gb408, 3, none⟩ (.int .i64 t399)).setCell ⟨gb408, 4, none⟩ (.int .i64 t400)).setCell ⟨gb408, 5, none⟩ (.int .i64 t401)).setCell ⟨gb408, 6, none⟩ (.slice Ao22 t402.length co22)).setCell ⟨gb408, 7, none⟩ (.slice Ao23 t405.length co23)) = w41 at n0_ n1_ n2_ n3_ n4_ ⊢
        have HO404 := n0_
        have HO407 := n1_
        have BK392 := n2_
        have BK408 := n3_
        have HB := n4_
        clear n0_ n1_ n2_ n3_ n4_
        have n0_ := Am (Kd.R_drew HO404.out)
        have n1_ := Am (Kd.R_drew HO407.out)
        have n2_ := Am (blk_drew BK392.out)
        have n3_ := Am (blk_drew BK408.out)
        have n4_ := Am (below_drew1 HB.out)
        clear HO404
        clear HO407
        clear BK392
        clear BK408
        clear HB
        have HO404 := n0_
        have HO407 := n1_
        have BK392 := n2_
        have BK408 := n3_
        have HB := n4_
        clear n0_ n1_ n2_ n3_ n4_
        refine start_ (n := 20) (S := fun w' => w'.cell? ⟨gb408, 0, none⟩ = some (.string t396) ∧ w'.cell? ⟨gb408, 1, none⟩ = some (.int .i64 t397) ∧ w'.cell? ⟨gb408, 2, none⟩ = some (.int .i64 t398) ∧ w'.cell? ⟨gb408, 3, none⟩ = some (.int .i64 t399) ∧ w'.cell? ⟨gb408, 4, none⟩ = some (.int .i64 t400) ∧ w'.cell? ⟨gb408, 5, none⟩ = some (.int .i64 t401) ∧ w'.cell? ⟨gb408, 6, none⟩ = some (.slice Ao22 t402.length co22) ∧ w'.cell? ⟨gb408, 7, none⟩ = some (.slice Ao23 t405.length co23) ∧ w'.cell? ⟨gb392, 0, none⟩ = some (.string a0_0) ∧ w'.cell? ⟨gb392, 1, none⟩ = some (.int .i64 a0_1) ∧ w'.cell? ⟨gb392, 2, none⟩ = some (.int .i64 a0_2) ∧ w'.cell? ⟨gb392, 3, none⟩ = some (.int .i64 a0_3) ∧ w'.cell? ⟨gb392, 4, none⟩ = some (.int .i64 a0_4) ∧ w'.cell? ⟨gb392, 5, none⟩ = some (.int .i64 a0_5) ∧ w'.cell? ⟨gb392, 6, none⟩ = some (.slice A0_6 l0_6.length c0_6) ∧ w'.cell? ⟨gb392, 7, none⟩ = some (.slice A0_7 l0_7.length c0_7)) (ds := []) CN0_ (by kernel_rfl) rfl rfl ⟨(blk_cell BK408.out 0).trans rfl, (blk_cell BK408.out 1).trans rfl, (blk_cell BK408.out 2).trans rfl, (blk_cell BK408.out 3).trans rfl, (blk_cell BK408.out 4).trans rfl, (blk_cell BK408.out 5).trans rfl, (blk_cell BK408.out 6).trans rfl, (blk_cell BK408.out 7).trans rfl, (blk_cell BK392.out 0).trans rfl, (blk_cell BK392.out 1).trans rfl, (blk_cell BK392.out 2).trans rfl, (blk_cell BK392.out 3).trans rfl, (blk_cell BK392.out 4).trans rfl, (blk_cell BK392.out 5).trans rfl, (blk_cell BK392.out 6).trans rfl, (blk_cell BK392.out 7).trans rfl⟩ (fun hHeld => ?_); refine with_tabW entrepotlaw08_CanonNormal.tab4 entrepotlaw08_CanonNormal.bits4 (fun HT_ HW_ => ?_)
        generalize w41.drew = w42 at HO404 HO407 BK392 BK408 HB hHeld ⊢
        refine take_ (i := 0) (N := some 17) (v := ?_) (a' := ?_) CN1_ rfl rfl (take_ofW HT_.out HW_.out (by kernel_rfl)) (fun _ _ _ h => h) (Or.inl ⟨by rfl, ?_⟩) hHeld ?_ ?_
        rotate_left
        ·rintro w' ⟨s0, s1, s2, s3, s4, s5, s6, s7, s8, s9, s10, s11, s12, s13, s14, s15⟩
         go_simp
         with_reducible rfl
        rotate_left
        ·simp only [Act.put, s1_, s2_, s3_, i64_w, i32_w]
         rfl
        refine take_ (i := 2) (N := some 19) (v := ?_) (a' := ?_) CN2_ rfl rfl (take_ofW HT_.out HW_.out (by kernel_rfl)) (fun _ _ _ h => h) (Or.inl ⟨by rfl, ?_⟩) hHeld ?_ ?_
        rotate_left
        ·rintro w' ⟨s0, s1, s2, s3, s4, s5, s6, s7, s8, s9, s10, s11, s12, s13, s14, s15⟩
         go_simp
         with_reducible rfl
        rotate_left
        ·simp only [Act.put, s1_, s2_, s3_, i64_w, i32_w]
         rfl
        refine one_ (i := 1) (N := some 18) CN3_ rfl rfl (one_of HT_.out (by kernel_rfl)) (by decide) (fun K hK => ?_)
        refine goes_ Try.func18 (by kernel_rfl) rfl #[.agg #[.string t396, .int .i64 t397, .int .i64 t398, .int .i64 t399, .int .i64 t400, .int .i64 t401, .slice Ao22 t402.length co22, .slice Ao23 t405.length co23]] (by rfl) rfl rfl (by (try simp only [List.map_toArray, List.map_cons, List.map_nil]); first | done | rfl | (simp only [List.length_drop, List.length_take]; rfl)) ?_
        with_reducible refine (canon_Norm.calls t396 t397 t398 t399 t400 t401 _ _ t402 _ _ t405 t409 t410 t411 t412 t413 t414 t415 t418 _ ?side1 ?side2 ?side3 ?side4 A24.out).mono ?_
        (case side1 => repeat (first | exact (Kd.R_reads' HO404.out).2.2 | (with_reducible refine Kd.C_alloc ?_ _) | (with_reducible refine Kd.C_drewN ?_ _) | (with_reducible refine Kd.C_drew ?_)))
        (case side2 => exact (Kd.R_reads' HO404.out).2.1)
        (case side3 => repeat (first | exact (Kd.R_reads' HO407.out).2.2 | (with_reducible refine Kd.C_alloc ?_ _) | (with_reducible refine Kd.C_drewN ?_ _) | (with_reducible refine Kd.C_drew ?_)))
        (case side4 => exact (Kd.R_reads' HO407.out).2.1)
        rintro e w43 ⟨v416, v419, rfl, ho0, ho1, hb⟩
        refine ⟨_, rfl, ?_⟩
        have n0_ := Am (Kd.R_elder' (by (with_reducible repeat (first | apply Kd.R_alloc | apply Kd.R_drewN | apply Kd.R_drew)); exact HO404.out) (Kd.R_base ho0) hb)
        have n1_ := Am (Kd.R_elder' (by (with_reducible repeat (first | apply Kd.R_alloc | apply Kd.R_drewN | apply Kd.R_drew)); exact HO407.out) (Kd.R_base ho1) hb)
        have n2_ := Am (Kd.R_lower (Kd.R_new' ho0 (Kd.R_lt (by (with_reducible repeat (first | apply Kd.R_alloc | apply Kd.R_drewN | apply Kd.R_drew)); exact HO404.out))) (below_size (by repeat (first | (with_reducible first | exact HB.out | apply below_alloc | apply pw_below_drewN | apply below_drew1 | refine below_set ?_ GE392.out | refine below_set ?_ GE408.out) | exact HB.out))))
        have n3_ := Am (Kd.R_lower (Kd.R_new' ho1 (Kd.R_lt (by (with_reducible repeat (first | apply Kd.R_alloc | apply Kd.R_drewN | apply Kd.R_drew)); exact HO407.out))) (below_size (by repeat (first | (with_reducible first | exact HB.out | apply below_alloc | apply pw_below_drewN | apply below_drew1 | refine below_set ?_ GE392.out | refine below_set ?_ GE408.out) | exact HB.out))))
        have n4_ := Am (blk_below (g := gb392) (o := .cells #[.string a0_0, .int .i64 a0_1, .int .i64 a0_2, .int .i64 a0_3, .int .i64 a0_4, .int .i64 a0_5, .slice A0_6 l0_6.length c0_6, .slice A0_7 l0_7.length c0_7] 25 (0, 0)) (by (with_reducible repeat (first | refine blk_drewN ?_ _ | refine blk_drew ?_ | refine blk_alloc ?_ _)); exact BK392.out) hb)
        have n5_ := Am (blk_below (g := gb408) (o := .cells #[.string t396, .int .i64 t397, .int .i64 t398, .int .i64 t399, .int .i64 t400, .int .i64 t401, .slice Ao22 t402.length co22, .slice Ao23 t405.length co23] 25 (0, 0)) (by (with_reducible repeat (first | refine blk_drewN ?_ _ | refine blk_drew ?_ | refine blk_alloc ?_ _)); exact BK408.out) hb)
        have n6_ := Am (below_step (by repeat (first | (with_reducible first | exact HB.out | apply below_alloc | apply pw_below_drewN | apply below_drew1 | refine below_set ?_ GE392.out | refine below_set ?_ GE408.out) | exact HB.out)) hb)
        clear HO404
        clear HO407
        clear BK392
        clear BK408
        clear HB
        have HO404 := n0_
        have HO407 := n1_
        have HO417 := n2_
        have HO420 := n3_
        have BK392 := n4_
        have BK408 := n5_
        have HB := n6_
        clear n0_ n1_ n2_ n3_ n4_ n5_ n6_
        (try clear hb)
        (try clear hb2)
        (try clear hk)
        (try clear hi)
        (try clear ho0)
        (try clear ho1)
        obtain ⟨Ao44, co44, eo44⟩ := Kd.R_slice HO417.out
        (first | subst eo44 | (injection eo44 with f1_ f2_ f3_; have f4_ := f1_.symm; have f5_ := f3_.symm; clear f1_ f2_ f3_; subst f4_; subst f5_))
        obtain ⟨Ao45, co45, eo45⟩ := Kd.R_slice HO420.out
        (first | subst eo45 | (injection eo45 with f1_ f2_ f3_; have f4_ := f1_.symm; have f5_ := f3_.symm; clear f1_ f2_ f3_; subst f4_; subst f5_))
        refine hK.out _ _ ⟨(blk_cell BK408.out 0).trans rfl, (blk_cell BK408.out 1).trans rfl, (blk_cell BK408.out 2).trans rfl, (blk_cell BK408.out 3).trans rfl, (blk_cell BK408.out 4).trans rfl, (blk_cell BK408.out 5).trans rfl, (blk_cell BK408.out 6).trans rfl, (blk_cell BK408.out 7).trans rfl, (blk_cell BK392.out 0).trans rfl, (blk_cell BK392.out 1).trans rfl, (blk_cell BK392.out 2).trans rfl, (blk_cell BK392.out 3).trans rfl, (blk_cell BK392.out 4).trans rfl, (blk_cell BK392.out 5).trans rfl, (blk_cell BK392.out 6).trans rfl, (blk_cell BK392.out 7).trans rfl⟩ (fun hHeld => ?_)
        clear hK K
        refine norm_ (a' := ?_) ?_ ?_
        rotate_left
        ·show Act.put _ (some 18) _ = _
         simp only [Act.put, s1_, s2_, s3_, i64_w, i32_w]
         rfl
        refine one_ (i := 3) (N := some 20) CN4_ rfl rfl (one_of HT_.out (by kernel_rfl)) (by decide) (fun K hK => ?_)
        refine goes_ Try.func20 (by kernel_rfl) rfl #[.agg #[.string t409, .int .i64 t410, .int .i64 t411, .int .i64 t412, .int .i64 t413, .int .i64 t414, .slice Ao44 t415.length co44, .slice Ao45 t418.length co45], .agg #[.string t396, .int .i64 t397, .int .i64 t398, .int .i64 t399, .int .i64 t400, .int .i64 t401, .slice Ao22 t402.length co22, .slice Ao23 t405.length co23]] (by rfl) rfl rfl (by (try simp only [List.map_toArray, List.map_cons, List.map_nil]); first | done | rfl | (simp only [List.length_drop, List.length_take]; rfl)) ?_
        with_reducible refine (canon_Same.calls t409 t410 t411 t412 t413 t414 _ _ t415 _ _ t418 t396 t397 t398 t399 t400 t401 _ _ t402 _ _ t405 true _ ?side1 ?side2 ?side3 ?side4 ?side5 ?side6 ?side7 ?side8 A25.out).mono ?_
        (case side1 => repeat (first | exact (Kd.R_reads' HO417.out).2.2 | (with_reducible refine Kd.C_alloc ?_ _) | (with_reducible refine Kd.C_drewN ?_ _) | (with_reducible refine Kd.C_drew ?_)))
        (case side2 => exact (Kd.R_reads' HO417.out).2.1)
        (case side3 => repeat (first | exact (Kd.R_reads' HO420.out).2.2 | (with_reducible refine Kd.C_alloc ?_ _) | (with_reducible refine Kd.C_drewN ?_ _) | (with_reducible refine Kd.C_drew ?_)))
        (case side4 => exact (Kd.R_reads' HO420.out).2.1)
        (case side5 => repeat (first | exact (Kd.R_reads' HO404.out).2.2 | (with_reducible refine Kd.C_alloc ?_ _) | (with_reducible refine Kd.C_drewN ?_ _) | (with_reducible refine Kd.C_drew ?_)))
        (case side6 => exact (Kd.R_reads' HO404.out).2.1)
        (case side7 => repeat (first | exact (Kd.R_reads' HO407.out).2.2 | (with_reducible refine Kd.C_alloc ?_ _) | (with_reducible refine Kd.C_drewN ?_ _) | (with_reducible refine Kd.C_drew ?_)))
        (case side8 => exact (Kd.R_reads' HO407.out).2.1)
        rintro e w46 ⟨rfl, hb⟩
        refine ⟨_, rfl, ?_⟩
        have n0_ := Am (Kd.R_below (by (with_reducible repeat (first | apply Kd.R_alloc | apply Kd.R_drewN | apply Kd.R_drew)); exact HO404.out) hb)
        have n1_ := Am (Kd.R_below (by (with_reducible repeat (first | apply Kd.R_alloc | apply Kd.R_drewN | apply Kd.R_drew)); exact HO407.out) hb)
        have n2_ := Am (Kd.R_below (by (with_reducible repeat (first | apply Kd.R_alloc | apply Kd.R_drewN | apply Kd.R_drew)); exact HO417.out) hb)
        have n3_ := Am (Kd.R_below (by (with_reducible repeat (first | apply Kd.R_alloc | apply Kd.R_drewN | apply Kd.R_drew)); exact HO420.out) hb)
        have n4_ := Am (blk_below (g := gb392) (o := .cells #[.string a0_0, .int .i64 a0_1, .int .i64 a0_2, .int .i64 a0_3, .int .i64 a0_4, .int .i64 a0_5, .slice A0_6 l0_6.length c0_6, .slice A0_7 l0_7.length c0_7] 25 (0, 0)) (by (with_reducible repeat (first | refine blk_drewN ?_ _ | refine blk_drew ?_ | refine blk_alloc ?_ _)); exact BK392.out) hb)
        have n5_ := Am (blk_below (g := gb408) (o := .cells #[.string t396, .int .i64 t397, .int .i64 t398, .int .i64 t399, .int .i64 t400, .int .i64 t401, .slice Ao22 t402.length co22, .slice Ao23 t405.length co23] 25 (0, 0)) (by (with_reducible repeat (first | refine blk_drewN ?_ _ | refine blk_drew ?_ | refine blk_alloc ?_ _)); exact BK408.out) hb)
        have n6_ := Am (below_step (by repeat (first | (with_reducible first | exact HB.out | apply below_alloc | apply pw_below_drewN | apply below_drew1 | refine below_set ?_ GE392.out | refine below_set ?_ GE408.out) | exact HB.out)) hb)
        clear HO404
        clear HO407
        clear HO417
        clear HO420
        clear BK392
        clear BK408
        clear HB
        have HO404 := n0_
        have HO407 := n1_
        have HO417 := n2_
        have HO420 := n3_
        have BK392 := n4_
        have BK408 := n5_
        have HB := n6_
        clear n0_ n1_ n2_ n3_ n4_ n5_ n6_
        (try clear hb)
        (try clear hb2)
        (try clear hk)
        (try clear hi)
        refine hK.out _ _ ⟨(blk_cell BK408.out 0).trans rfl, (blk_cell BK408.out 1).trans rfl, (blk_cell BK408.out 2).trans rfl, (blk_cell BK408.out 3).trans rfl, (blk_cell BK408.out 4).trans rfl, (blk_cell BK408.out 5).trans rfl, (blk_cell BK408.out 6).trans rfl, (blk_cell BK408.out 7).trans rfl, (blk_cell BK392.out 0).trans rfl, (blk_cell BK392.out 1).trans rfl, (blk_cell BK392.out 2).trans rfl, (blk_cell BK392.out 3).trans rfl, (blk_cell BK392.out 4).trans rfl, (blk_cell BK392.out 5).trans rfl, (blk_cell BK392.out 6).trans rfl, (blk_cell BK392.out 7).trans rfl⟩ (fun hHeld => ?_)
        clear hK K
        refine norm_ (a' := ?_) ?_ ?_
        rotate_left
        ·show Act.put _ (some 20) _ = _
         simp only [Act.put, s1_, s2_, s3_, i64_w, i32_w]
         rfl
        refine pure_ (i := 4) (N := some 21) (v := ?_) (a' := ?_) CN5_ rfl rfl (any_of HT_.out (by kernel_rfl)) (fun _ _ _ h => h) (Or.inl ⟨by rfl, ?_⟩) ?_ ?_
        rotate_left
        ·intro w'
         go_simp
         with_reducible rfl
        rotate_left
        ·simp only [Act.put, s1_, s2_, s3_, i64_w, i32_w]
         rfl
        refine pure_ (i := 5) (N := some 22) (v := ?_) (a' := ?_) CN6_ rfl rfl (any_of HT_.out (by kernel_rfl)) (fun _ _ _ h => h) (Or.inl ⟨by rfl, ?_⟩) ?_ ?_
        rotate_left
        ·intro w'
         go_simp
         with_reducible rfl
        rotate_left
        ·simp only [Act.put, s1_, s2_, s3_, i64_w, i32_w]
         rfl
        refine take_ (i := 6) (N := some 23) (v := ?_) (a' := ?_) CN7_ rfl rfl (take_ofW HT_.out HW_.out (by kernel_rfl)) (fun _ _ _ h => h) (Or.inl ⟨by rfl, ?_⟩) hHeld ?_ ?_
        rotate_left
        ·rintro w' ⟨s0, s1, s2, s3, s4, s5, s6, s7, s8, s9, s10, s11, s12, s13, s14, s15⟩
         go_simp
         with_reducible rfl
        rotate_left
        ·simp only [Act.put, s1_, s2_, s3_, i64_w, i32_w]
         rfl
        refine one_ (i := 7) (N := some 24) CN8_ rfl rfl (one_of HT_.out (by kernel_rfl)) (by decide) (fun K hK => ?_)
        refine goes_ Try.func16 (by kernel_rfl) rfl #[.agg #[.string a0_0, .int .i64 a0_1, .int .i64 a0_2, .int .i64 a0_3, .int .i64 a0_4, .int .i64 a0_5, .slice A0_6 l0_6.length c0_6, .slice A0_7 l0_7.length c0_7]] (by rfl) rfl rfl (by (try simp only [List.map_toArray, List.map_cons, List.map_nil]); first | done | rfl | (simp only [List.length_drop, List.length_take]; rfl)) ?_
        with_reducible refine (canon_Well.calls a0_0 a0_1 a0_2 a0_3 a0_4 a0_5 _ _ l0_6 _ _ l0_7 true _ ?side1 ?side2 ?side3 ?side4 A27.out).mono ?_
        (case side1 => repeat (first | exact (Kd.C_below HR0_6.out HB.out) | (with_reducible refine Kd.C_alloc ?_ _) | (with_reducible refine Kd.C_drewN ?_ _) | (with_reducible refine Kd.C_drew ?_)))
        (case side2 => exact HC0_6.out)
        (case side3 => repeat (first | exact (Kd.C_below HR0_7.out HB.out) | (with_reducible refine Kd.C_alloc ?_ _) | (with_reducible refine Kd.C_drewN ?_ _) | (with_reducible refine Kd.C_drew ?_)))
        (case side4 => exact HC0_7.out)
        rintro e w47 ⟨rfl, hb⟩
        refine ⟨_, rfl, ?_⟩
        have n0_ := Am (Kd.R_below (by (with_reducible repeat (first | apply Kd.R_alloc | apply Kd.R_drewN | apply Kd.R_drew)); exact HO404.out) hb)
        have n1_ := Am (Kd.R_below (by (with_reducible repeat (first | apply Kd.R_alloc | apply Kd.R_drewN | apply Kd.R_drew)); exact HO407.out) hb)
        have n2_ := Am (Kd.R_below (by (with_reducible repeat (first | apply Kd.R_alloc | apply Kd.R_drewN | apply Kd.R_drew)); exact HO417.out) hb)
        have n3_ := Am (Kd.R_below (by (with_reducible repeat (first | apply Kd.R_alloc | apply Kd.R_drewN | apply Kd.R_drew)); exact HO420.out) hb)
        have n4_ := Am (blk_below (g := gb392) (o := .cells #[.string a0_0, .int .i64 a0_1, .int .i64 a0_2, .int .i64 a0_3, .int .i64 a0_4, .int .i64 a0_5, .slice A0_6 l0_6.length c0_6, .slice A0_7 l0_7.length c0_7] 25 (0, 0)) (by (with_reducible repeat (first | refine blk_drewN ?_ _ | refine blk_drew ?_ | refine blk_alloc ?_ _)); exact BK392.out) hb)
        have n5_ := Am (blk_below (g := gb408) (o := .cells #[.string t396, .int .i64 t397, .int .i64 t398, .int .i64 t399, .int .i64 t400, .int .i64 t401, .slice Ao22 t402.length co22, .slice Ao23 t405.length co23] 25 (0, 0)) (by (with_reducible repeat (first | refine blk_drewN ?_ _ | refine blk_drew ?_ | refine blk_alloc ?_ _)); exact BK408.out) hb)
        have n6_ := Am (below_step (by repeat (first | (with_reducible first | exact HB.out | apply below_alloc | apply pw_below_drewN | apply below_drew1 | refine below_set ?_ GE392.out | refine below_set ?_ GE408.out) | exact HB.out)) hb)
        clear HO404
        clear HO407
        clear HO417
        clear HO420
        clear BK392
        clear BK408
        clear HB
        have HO404 := n0_
        have HO407 := n1_
        have HO417 := n2_
        have HO420 := n3_
        have BK392 := n4_
        have BK408 := n5_
        have HB := n6_
        clear n0_ n1_ n2_ n3_ n4_ n5_ n6_
        (try clear hb)
        (try clear hb2)
        (try clear hk)
        (try clear hi)
        refine hK.out _ _ ⟨(blk_cell BK408.out 0).trans rfl, (blk_cell BK408.out 1).trans rfl, (blk_cell BK408.out 2).trans rfl, (blk_cell BK408.out 3).trans rfl, (blk_cell BK408.out 4).trans rfl, (blk_cell BK408.out 5).trans rfl, (blk_cell BK408.out 6).trans rfl, (blk_cell BK408.out 7).trans rfl, (blk_cell BK392.out 0).trans rfl, (blk_cell BK392.out 1).trans rfl, (blk_cell BK392.out 2).trans rfl, (blk_cell BK392.out 3).trans rfl, (blk_cell BK392.out 4).trans rfl, (blk_cell BK392.out 5).trans rfl, (blk_cell BK392.out 6).trans rfl, (blk_cell BK392.out 7).trans rfl⟩ (fun hHeld => ?_)
        clear hK K
        refine norm_ (a' := ?_) ?_ ?_
        rotate_left
        ·show Act.put _ (some 24) _ = _
         simp only [Act.put, s1_, s2_, s3_, i64_w, i32_w]
         rfl
        refine pure_ (i := 8) (N := some 25) (v := ?_) (a' := ?_) CN9_ rfl rfl (any_of HT_.out (by kernel_rfl)) (fun _ _ _ h => h) (Or.inl ⟨by rfl, ?_⟩) ?_ ?_
        rotate_left
        ·intro w'
         go_simp
         with_reducible rfl
        rotate_left
        ·simp only [Act.put, s1_, s2_, s3_, i64_w, i32_w]
         rfl
        refine take_ (i := 9) (N := some 26) (v := ?_) (a' := ?_) CN10_ rfl rfl (take_ofW HT_.out HW_.out (by kernel_rfl)) (fun _ _ _ h => h) (Or.inl ⟨by rfl, ?_⟩) hHeld ?_ ?_
        rotate_left
        ·rintro w' ⟨s0, s1, s2, s3, s4, s5, s6, s7, s8, s9, s10, s11, s12, s13, s14, s15⟩
         go_simp
         with_reducible rfl
        rotate_left
        ·simp only [Act.put, s1_, s2_, s3_, i64_w, i32_w]
         rfl
        refine one_ (i := 10) (N := some 27) CN11_ rfl rfl (one_of HT_.out (by kernel_rfl)) (by decide) (fun K hK => ?_)
        refine goes_ Try.func16 (by kernel_rfl) rfl #[.agg #[.string t396, .int .i64 t397, .int .i64 t398, .int .i64 t399, .int .i64 t400, .int .i64 t401, .slice Ao22 t402.length co22, .slice Ao23 t405.length co23]] (by rfl) rfl rfl (by (try simp only [List.map_toArray, List.map_cons, List.map_nil]); first | done | rfl | (simp only [List.length_drop, List.length_take]; rfl)) ?_
        with_reducible refine (canon_Well.calls t396 t397 t398 t399 t400 t401 _ _ t402 _ _ t405 false _ ?side1 ?side2 ?side3 ?side4 A29.out).mono ?_
        (case side1 => repeat (first | exact (Kd.R_reads' HO404.out).2.2 | (with_reducible refine Kd.C_alloc ?_ _) | (with_reducible refine Kd.C_drewN ?_ _) | (with_reducible refine Kd.C_drew ?_)))
        (case side2 => exact (Kd.R_reads' HO404.out).2.1)
        (case side3 => repeat (first | exact (Kd.R_reads' HO407.out).2.2 | (with_reducible refine Kd.C_alloc ?_ _) | (with_reducible refine Kd.C_drewN ?_ _) | (with_reducible refine Kd.C_drew ?_)))
        (case side4 => exact (Kd.R_reads' HO407.out).2.1)
        rintro e w48 ⟨rfl, hb⟩
        refine ⟨_, rfl, ?_⟩
        have n0_ := Am (Kd.R_below (by (with_reducible repeat (first | apply Kd.R_alloc | apply Kd.R_drewN | apply Kd.R_drew)); exact HO404.out) hb)
        have n1_ := Am (Kd.R_below (by (with_reducible repeat (first | apply Kd.R_alloc | apply Kd.R_drewN | apply Kd.R_drew)); exact HO407.out) hb)
        have n2_ := Am (Kd.R_below (by (with_reducible repeat (first | apply Kd.R_alloc | apply Kd.R_drewN | apply Kd.R_drew)); exact HO417.out) hb)
        have n3_ := Am (Kd.R_below (by (with_reducible repeat (first | apply Kd.R_alloc | apply Kd.R_drewN | apply Kd.R_drew)); exact HO420.out) hb)
        have n4_ := Am (blk_below (g := gb392) (o := .cells #[.string a0_0, .int .i64 a0_1, .int .i64 a0_2, .int .i64 a0_3, .int .i64 a0_4, .int .i64 a0_5, .slice A0_6 l0_6.length c0_6, .slice A0_7 l0_7.length c0_7] 25 (0, 0)) (by (with_reducible repeat (first | refine blk_drewN ?_ _ | refine blk_drew ?_ | refine blk_alloc ?_ _)); exact BK392.out) hb)
        have n5_ := Am (blk_below (g := gb408) (o := .cells #[.string t396, .int .i64 t397, .int .i64 t398, .int .i64 t399, .int .i64 t400, .int .i64 t401, .slice Ao22 t402.length co22, .slice Ao23 t405.length co23] 25 (0, 0)) (by (with_reducible repeat (first | refine blk_drewN ?_ _ | refine blk_drew ?_ | refine blk_alloc ?_ _)); exact BK408.out) hb)
        have n6_ := Am (below_step (by repeat (first | (with_reducible first | exact HB.out | apply below_alloc | apply pw_below_drewN | apply below_drew1 | refine below_set ?_ GE392.out | refine below_set ?_ GE408.out) | exact HB.out)) hb)
        clear HO404
        clear HO407
        clear HO417
        clear HO420
        clear BK392
        clear BK408
        clear HB
        have HO404 := n0_
        have HO407 := n1_
        have HO417 := n2_
        have HO420 := n3_
        have BK392 := n4_
        have BK408 := n5_
        have HB := n6_
        clear n0_ n1_ n2_ n3_ n4_ n5_ n6_
        (try clear hb)
        (try clear hb2)
        (try clear hk)
        (try clear hi)
        refine hK.out _ _ ⟨(blk_cell BK408.out 0).trans rfl, (blk_cell BK408.out 1).trans rfl, (blk_cell BK408.out 2).trans rfl, (blk_cell BK408.out 3).trans rfl, (blk_cell BK408.out 4).trans rfl, (blk_cell BK408.out 5).trans rfl, (blk_cell BK408.out 6).trans rfl, (blk_cell BK408.out 7).trans rfl, (blk_cell BK392.out 0).trans rfl, (blk_cell BK392.out 1).trans rfl, (blk_cell BK392.out 2).trans rfl, (blk_cell BK392.out 3).trans rfl, (blk_cell BK392.out 4).trans rfl, (blk_cell BK392.out 5).trans rfl, (blk_cell BK392.out 6).trans rfl, (blk_cell BK392.out 7).trans rfl⟩ (fun hHeld => ?_)
        clear hK K
        refine norm_ (a' := ?_) ?_ ?_
        rotate_left
        ·show Act.put _ (some 27) _ = _
         simp only [Act.put, s1_, s2_, s3_, i64_w, i32_w]
         rfl
        refine pure_ (i := 11) (N := some 28) (v := ?_) (a' := ?_) CN12_ rfl rfl (any_of HT_.out (by kernel_rfl)) (fun _ _ _ h => h) (Or.inl ⟨by rfl, ?_⟩) ?_ ?_
        rotate_left
        ·intro w'
         go_simp
         with_reducible rfl
        rotate_left
        ·simp only [Act.put, s1_, s2_, s3_, i64_w, i32_w]
         rfl
        refine pure_ (i := 12) (N := some 29) (v := ?_) (a' := ?_) CN13_ rfl rfl (any_of HT_.out (by kernel_rfl)) (fun _ _ _ h => h) (Or.inl ⟨by rfl, ?_⟩) ?_ ?_
        rotate_left
        ·intro w'
         go_simp
         with_reducible rfl
        rotate_left
        ·simp only [Act.put, s1_, s2_, s3_, i64_w, i32_w]
         rfl
        refine pure_ (i := 13) (N := some 30) (v := ?_) (a' := ?_) CN14_ rfl rfl (any_of HT_.out (by kernel_rfl)) (fun _ _ _ h => h) (Or.inl ⟨by rfl, ?_⟩) ?_ ?_
        rotate_left
        ·intro w'
         go_simp
         with_reducible rfl
        rotate_left
        ·simp only [Act.put, s1_, s2_, s3_, i64_w, i32_w]
         rfl
        refine pure_ (i := 14) (N := some 31) (v := ?_) (a' := ?_) CN15_ rfl rfl (any_of HT_.out (by kernel_rfl)) (fun _ _ _ h => h) (Or.inl ⟨by rfl, ?_⟩) ?_ ?_
        rotate_left
        ·intro w'
         go_simp
         with_reducible rfl
        rotate_left
        ·simp only [Act.put, s1_, s2_, s3_, i64_w, i32_w]
         rfl
        refine pure_ (i := 15) (N := some 32) (v := undef) (a' := ?_) CN16_ rfl rfl (any_of HT_.out (by kernel_rfl)) (fun _ _ _ h => h) (Or.inr ⟨by rfl, rfl⟩) ?_ ?_
        rotate_left
        ·simp only [Act.put, s1_, s2_, s3_, i64_w, i32_w]
         rfl
        refine pure_ (i := 16) (N := some 33) (v := undef) (a' := ?_) CN17_ rfl rfl (any_of HT_.out (by kernel_rfl)) (fun _ _ _ h => h) (Or.inr ⟨by rfl, rfl⟩) ?_ ?_
        rotate_left
        ·simp only [Act.put, s1_, s2_, s3_, i64_w, i32_w]
         rfl
        refine pure_ (i := 17) (N := some 34) (v := undef) (a' := ?_) CN18_ rfl rfl (any_of HT_.out (by kernel_rfl)) (fun _ _ _ h => h) (Or.inr ⟨by rfl, rfl⟩) ?_ ?_
        rotate_left
        ·simp only [Act.put, s1_, s2_, s3_, i64_w, i32_w]
         rfl
        refine pure_ (i := 18) (N := some 35) (v := undef) (a' := ?_) CN19_ rfl rfl (any_of HT_.out (by kernel_rfl)) (fun _ _ _ h => h) (Or.inr ⟨by rfl, rfl⟩) ?_ ?_
        rotate_left
        ·simp only [Act.put, s1_, s2_, s3_, i64_w, i32_w]
         rfl
        refine pure_ (i := 19) (N := some 36) (v := ?_) (a' := ?_) CN20_ rfl rfl (any_of HT_.out (by kernel_rfl)) (fun _ _ _ h => h) (Or.inl ⟨by rfl, ?_⟩) ?_ ?_
        rotate_left
        ·intro w'
         go_simp
         with_reducible rfl
        rotate_left
        ·simp only [Act.put, s1_, s2_, s3_, i64_w, i32_w]
         rfl
        refine done_ (done_of HT_.out (by kernel_rfl)) ?_
        try go_wp2
        go_meet
        case rel => exact ⟨_, (true), (by first | rfl | (simp; done) | (simp [*]; done)), H', ⟨by have := HJ1.out; first | omega | exact Nat.le_refl _⟩, ⟨by (with_reducible repeat (first | apply Kd.R_alloc | apply Kd.R_drewN | apply Kd.R_drew)); exact Kd.R_mono HO404.out (fun _ hk => trivial)⟩, ⟨by (with_reducible repeat (first | apply Kd.R_alloc | apply Kd.R_drewN | apply Kd.R_drew)); exact Kd.R_mono HO407.out (fun _ hk => trivial)⟩, ⟨by (with_reducible repeat (first | refine blk_drewN ?_ _ | refine blk_drew ?_ | refine blk_alloc ?_ _)); exact BK392.out⟩, ⟨by (with_reducible repeat (first | refine blk_drewN ?_ _ | refine blk_drew ?_ | refine blk_alloc ?_ _)); exact BK408.out⟩, ⟨by repeat (first | (with_reducible first | exact HB.out | apply below_alloc | apply pw_below_drewN | apply below_drew1 | refine below_set ?_ GE392.out | refine below_set ?_ GE408.out) | exact HB.out)⟩⟩
      ·replace c28 := Bool.eq_false_iff.mpr c28
       subst c28
       have H1 : ((canon_Same.f a0_0 a0_1 a0_2 a0_3 a0_4 a0_5 l0_6 l0_7 a0_0 a0_1 a0_2 a0_3 a0_4 a0_5 l0_6 l0_7).bind fun t425 => (entrepotlaw08_CanonNormal.j1 kj1 (!t425) a0_0 a0_1 a0_2 a0_3 a0_4 a0_5 l0_6 l0_7 t396 t397 t398 t399 t400 t401 t402 t405)) = some r := by rw [if_neg (show ¬ (false = true) by decide)] at H; exact H
       clear H
       have H := H1
       clear H1
       replace H := Option.bind_eq_some_iff.mp H
       obtain ⟨t425, A490, H⟩ := H
       replace H : (entrepotlaw08_CanonNormal.j1 kj1 (!t425) a0_0 a0_1 a0_2 a0_3 a0_4 a0_5 l0_6 l0_7 t396 t397 t398 t399 t400 t401 t402 t405) = some r := H
       have A49 := Am A490
       clear A490
       have H' := Am H
       clear H
       try go_wp2
       have n0_ : Aside0 (Kd.R k46 46 ((((((((w19.setCell ⟨gb408, 0, none⟩ (.string t396)).setCell ⟨gb408, 1, none⟩ (.int .i64 t397)).setCell ⟨gb408, 2, none⟩ (.int .i64 t398)).setCell ⟨gb408, 3, none⟩ (.int .i64 t399)).setCell ⟨gb408, 4, none⟩ (.int .i64 t400)).setCell ⟨gb408, 5, none⟩ (.int .i64 t401)).setCell ⟨gb408, 6, none⟩ (.slice Ao22 t402.length co22)).setCell ⟨gb408, 7, none⟩ (.slice Ao23 t405.length co23)) w.heap.size (fun _ => True) (.slice Ao22 t402.length co22) t402) := ⟨by (with_reducible repeat (first | apply Kd.R_alloc | apply Kd.R_drewN | apply Kd.R_drew)); exact Kd.R_mono (Kd.R_far (p := ⟨gb408, 7, none⟩) (Kd.R_far (p := ⟨gb408, 6, none⟩) (Kd.R_far (p := ⟨gb408, 5, none⟩) (Kd.R_far (p := ⟨gb408, 4, none⟩) (Kd.R_far (p := ⟨gb408, 3, none⟩) (Kd.R_far (p := ⟨gb408, 2, none⟩) (Kd.R_far (p := ⟨gb408, 1, none⟩) (Kd.R_far (p := ⟨gb408, 0, none⟩) (Kd.R_types HO404.out BK408.out (by decide)) (fun _ hk => hk.2) (.string t396)) (fun _ hk => hk.2) (.int .i64 t397)) (fun _ hk => hk.2) (.int .i64 t398)) (fun _ hk => hk.2) (.int .i64 t399)) (fun _ hk => hk.2) (.int .i64 t400)) (fun _ hk => hk.2) (.int .i64 t401)) (fun _ hk => hk.2) (.slice Ao22 t402.length co22)) (fun _ hk => hk.2) (.slice Ao23 t405.length co23)) (fun _ hk => trivial)⟩
       have n1_ : Aside0 (Kd.R (Kd.int .i64) 3 ((((((((w19.setCell ⟨gb408, 0, none⟩ (.string t396)).setCell ⟨gb408, 1, none⟩ (.int .i64 t397)).setCell ⟨gb408, 2, none⟩ (.int .i64 t398)).setCell ⟨gb408, 3, none⟩ (.int .i64 t399)).setCell ⟨gb408, 4, none⟩ (.int .i64 t400)).setCell ⟨gb408, 5, none⟩ (.int .i64 t401)).setCell ⟨gb408, 6, none⟩ (.slice Ao22 t402.length co22)).setCell ⟨gb408, 7, none⟩ (.slice Ao23 t405.length co23)) w.heap.size (fun _ => True) (.slice Ao23 t405.length co23) t405) := ⟨by (with_reducible repeat (first | apply Kd.R_alloc | apply Kd.R_drewN | apply Kd.R_drew)); exact Kd.R_mono (Kd.R_far (p := ⟨gb408, 7, none⟩) (Kd.R_far (p := ⟨gb408, 6, none⟩) (Kd.R_far (p := ⟨gb408, 5, none⟩) (Kd.R_far (p := ⟨gb408, 4, none⟩) (Kd.R_far (p := ⟨gb408, 3, none⟩) (Kd.R_far (p := ⟨gb408, 2, none⟩) (Kd.R_far (p := ⟨gb408, 1, none⟩) (Kd.R_far (p := ⟨gb408, 0, none⟩) (Kd.R_types HO407.out BK408.out (by decide)) (fun _ hk => hk.2) (.string t396)) (fun _ hk => hk.2) (.int .i64 t397)) (fun _ hk => hk.2) (.int .i64 t398)) (fun _ hk => hk.2) (.int .i64 t399)) (fun _ hk => hk.2) (.int .i64 t400)) (fun _ hk => hk.2) (.int .i64 t401)) (fun _ hk => hk.2) (.slice Ao22 t402.length co22)) (fun _ hk => hk.2) (.slice Ao23 t405.length co23)) (fun _ hk => trivial)⟩
       have n2_ : Aside0 (((((((((w19.setCell ⟨gb408, 0, none⟩ (.string t396)).setCell ⟨gb408, 1, none⟩ (.int .i64 t397)).setCell ⟨gb408, 2, none⟩ (.int .i64 t398)).setCell ⟨gb408, 3, none⟩ (.int .i64 t399)).setCell ⟨gb408, 4, none⟩ (.int .i64 t400)).setCell ⟨gb408, 5, none⟩ (.int .i64 t401)).setCell ⟨gb408, 6, none⟩ (.slice Ao22 t402.length co22)).setCell ⟨gb408, 7, none⟩ (.slice Ao23 t405.length co23)).heap[gb392]? = some (.cells #[.string a0_0, .int .i64 a0_1, .int .i64 a0_2, .int .i64 a0_3, .int .i64 a0_4, .int .i64 a0_5, .slice A0_6 l0_6.length c0_6, .slice A0_7 l0_7.length c0_7] 25 (0, 0))) := ⟨by (with_reducible repeat (first | refine blk_drewN ?_ _ | refine blk_drew ?_ | refine blk_alloc ?_ _)); refine blk_far ?_ NB392_408.out _; (with_reducible repeat (first | refine blk_drewN ?_ _ | refine blk_drew ?_ | refine blk_alloc ?_ _)); refine blk_far ?_ NB392_408.out _; (with_reducible repeat (first | refine blk_drewN ?_ _ | refine blk_drew ?_ | refine blk_alloc ?_ _)); refine blk_far ?_ NB392_408.out _; (with_reducible repeat (first | refine blk_drewN ?_ _ | refine blk_drew ?_ | refine blk_alloc ?_ _)); refine blk_far ?_ NB392_408.out _; (with_reducible repeat (first | refine blk_drewN ?_ _ | refine blk_drew ?_ | refine blk_alloc ?_ _)); refine blk_far ?_ NB392_408.out _; (with_reducible repeat (first | refine blk_drewN ?_ _ | refine blk_drew ?_ | refine blk_alloc ?_ _)); refine blk_far ?_ NB392_408.out _; (with_reducible repeat (first | refine blk_drewN ?_ _ | refine blk_drew ?_ | refine blk_alloc ?_ _)); refine blk_far ?_ NB392_408.out _; (with_reducible repeat (first | refine blk_drewN ?_ _ | refine blk_drew ?_ | refine blk_alloc ?_ _)); refine blk_far ?_ NB392_408.out _; (with_reducible repeat (first | refine blk_drewN ?_ _ | refine blk_drew ?_ | refine blk_alloc ?_ _)); exact BK392.out⟩
       have n3_ : Aside0 (((((((((w19.setCell ⟨gb408, 0, none⟩ (.string t396)).setCell ⟨gb408, 1, none⟩ (.int .i64 t397)).setCell ⟨gb408, 2, none⟩ (.int .i64 t398)).setCell ⟨gb408, 3, none⟩ (.int .i64 t399)).setCell ⟨gb408, 4, none⟩ (.int .i64 t400)).setCell ⟨gb408, 5, none⟩ (.int .i64 t401)).setCell ⟨gb408, 6, none⟩ (.slice Ao22 t402.length co22)).setCell ⟨gb408, 7, none⟩ (.slice Ao23 t405.length co23)).heap[gb408]? = some (.cells #[.string t396, .int .i64 t397, .int .i64 t398, .int .i64 t399, .int .i64 t400, .int .i64 t401, .slice Ao22 t402.length co22, .slice Ao23 t405.length co23] 25 (0, 0))) := ⟨by (with_reducible repeat (first | refine blk_drewN ?_ _ | refine blk_drew ?_ | refine blk_alloc ?_ _)); refine blk_put (cs := #[.string t396, .int .i64 t397, .int .i64 t398, .int .i64 t399, .int .i64 t400, .int .i64 t401, .slice Ao22 t402.length co22, .slice none 0 0]) ?_ 7 _ rfl; (with_reducible repeat (first | refine blk_drewN ?_ _ | refine blk_drew ?_ | refine blk_alloc ?_ _)); refine blk_put (cs := #[.string t396, .int .i64 t397, .int .i64 t398, .int .i64 t399, .int .i64 t400, .int .i64 t401, .slice none 0 0, .slice none 0 0]) ?_ 6 _ rfl; (with_reducible repeat (first | refine blk_drewN ?_ _ | refine blk_drew ?_ | refine blk_alloc ?_ _)); refine blk_put (cs := #[.string t396, .int .i64 t397, .int .i64 t398, .int .i64 t399, .int .i64 t400, .int .i64 0, .slice none 0 0, .slice none 0 0]) ?_ 5 _ rfl; (with_reducible repeat (first | refine blk_drewN ?_ _ | refine blk_drew ?_ | refine blk_alloc ?_ _)); refine blk_put (cs := #[.string t396, .int .i64 t397, .int .i64 t398, .int .i64 t399, .int .i64 0, .int .i64 0, .slice none 0 0, .slice none 0 0]) ?_ 4 _ rfl; (with_reducible repeat (first | refine blk_drewN ?_ _ | refine blk_drew ?_ | refine blk_alloc ?_ _)); refine blk_put (cs := #[.string t396, .int .i64 t397, .int .i64 t398, .int .i64 0, .int .i64 0, .int .i64 0, .slice none 0 0, .slice none 0 0]) ?_ 3 _ rfl; (with_reducible repeat (first | refine blk_drewN ?_ _ | refine blk_drew ?_ | refine blk_alloc ?_ _)); refine blk_put (cs := #[.string t396, .int .i64 t397, .int .i64 0, .int .i64 0, .int .i64 0, .int .i64 0, .slice none 0 0, .slice none 0 0]) ?_ 2 _ rfl; (with_reducible repeat (first | refine blk_drewN ?_ _ | refine blk_drew ?_ | refine blk_alloc ?_ _)); refine blk_put (cs := #[.string t396, .int .i64 0, .int .i64 0, .int .i64 0, .int .i64 0, .int .i64 0, .slice none 0 0, .slice none 0 0]) ?_ 1 _ rfl; (with_reducible repeat (first | refine blk_drewN ?_ _ | refine blk_drew ?_ | refine blk_alloc ?_ _)); refine blk_put (cs := #[.string (⟨#[]⟩ : ByteArray), .int .i64 0, .int .i64 0, .int .i64 0, .int .i64 0, .int .i64 0, .slice none 0 0, .slice none 0 0]) ?_ 0 _ rfl; (with_reducible repeat (first | refine blk_drewN ?_ _ | refine blk_drew ?_ | refine blk_alloc ?_ _)); exact BK408.out⟩
       have n4_ : Aside0 (Below w.heap.size w ((((((((w19.setCell ⟨gb408, 0, none⟩ (.string t396)).setCell ⟨gb408, 1, none⟩ (.int .i64 t397)).setCell ⟨gb408, 2, none⟩ (.int .i64 t398)).setCell ⟨gb408, 3, none⟩ (.int .i64 t399)).setCell ⟨gb408, 4, none⟩ (.int .i64 t400)).setCell ⟨gb408, 5, none⟩ (.int .i64 t401)).setCell ⟨gb408, 6, none⟩ (.slice Ao22 t402.length co22)).setCell ⟨gb408, 7, none⟩ (.slice Ao23 t405.length co23))) := ⟨by repeat (first | (with_reducible first | exact HB.out | apply below_alloc | apply pw_below_drewN | apply below_drew1 | refine below_set ?_ GE392.out | refine below_set ?_ GE408.out) | exact HB.out)⟩
       (try clear HO404)
       (try clear HO407)
       (try clear BK392)
       (try clear BK408)
       (try clear HB)
       generalize ((((((((w19.setCell ⟨gb408, 0, none⟩ (.string t396)).setCell ⟨gb408, 1, none⟩ (.int .i64 t397)).setCell ⟨gb408, 2, none⟩ (.int .i64 t398)).setCell ⟨gb408, 3, none⟩ (.int .i64 t399)).setCell ⟨gb408, 4, none⟩ (.int .i64 t400)).setCell ⟨gb408, 5, none⟩ (.int .i64 t401)).setCell ⟨gb408, 6, none⟩ (.slice Ao22 t402.length co22)).setCell ⟨gb408, 7, none⟩ (.slice Ao23 t405.length co23)) = w50 at n0_ n1_ n2_ n3_ n4_ ⊢
       have HO404 := n0_
       have HO407 := n1_
       have BK392 := n2_
       have BK408 := n3_
       have HB := n4_
       clear n0_ n1_ n2_ n3_ n4_
       have n0_ := Am (Kd.R_drew HO404.out)
       have n1_ := Am (Kd.R_drew HO407.out)
       have n2_ := Am (blk_drew BK392.out)
       have n3_ := Am (blk_drew BK408.out)
       have n4_ := Am (below_drew1 HB.out)
       clear HO404
       clear HO407
       clear BK392
       clear BK408
       clear HB
       have HO404 := n0_
       have HO407 := n1_
       have BK392 := n2_
       have BK408 := n3_
       have HB := n4_
       clear n0_ n1_ n2_ n3_ n4_
       refine start_ (n := 20) (S := fun w' => w'.cell? ⟨gb408, 0, none⟩ = some (.string t396) ∧ w'.cell? ⟨gb408, 1, none⟩ = some (.int .i64 t397) ∧ w'.cell? ⟨gb408, 2, none⟩ = some (.int .i64 t398) ∧ w'.cell? ⟨gb408, 3, none⟩ = some (.int .i64 t399) ∧ w'.cell? ⟨gb408, 4, none⟩ = some (.int .i64 t400) ∧ w'.cell? ⟨gb408, 5, none⟩ = some (.int .i64 t401) ∧ w'.cell? ⟨gb408, 6, none⟩ = some (.slice Ao22 t402.length co22) ∧ w'.cell? ⟨gb408, 7, none⟩ = some (.slice Ao23 t405.length co23) ∧ w'.cell? ⟨gb392, 0, none⟩ = some (.string a0_0) ∧ w'.cell? ⟨gb392, 1, none⟩ = some (.int .i64 a0_1) ∧ w'.cell? ⟨gb392, 2, none⟩ = some (.int .i64 a0_2) ∧ w'.cell? ⟨gb392, 3, none⟩ = some (.int .i64 a0_3) ∧ w'.cell? ⟨gb392, 4, none⟩ = some (.int .i64 a0_4) ∧ w'.cell? ⟨gb392, 5, none⟩ = some (.int .i64 a0_5) ∧ w'.cell? ⟨gb392, 6, none⟩ = some (.slice A0_6 l0_6.length c0_6) ∧ w'.cell? ⟨gb392, 7, none⟩ = some (.slice A0_7 l0_7.length c0_7)) (ds := []) CN0_ (by kernel_rfl) rfl rfl ⟨(blk_cell BK408.out 0).trans rfl, (blk_cell BK408.out 1).trans rfl, (blk_cell BK408.out 2).trans rfl, (blk_cell BK408.out 3).trans rfl, (blk_cell BK408.out 4).trans rfl, (blk_cell BK408.out 5).trans rfl, (blk_cell BK408.out 6).trans rfl, (blk_cell BK408.out 7).trans rfl, (blk_cell BK392.out 0).trans rfl, (blk_cell BK392.out 1).trans rfl, (blk_cell BK392.out 2).trans rfl, (blk_cell BK392.out 3).trans rfl, (blk_cell BK392.out 4).trans rfl, (blk_cell BK392.out 5).trans rfl, (blk_cell BK392.out 6).trans rfl, (blk_cell BK392.out 7).trans rfl⟩ (fun hHeld => ?_); refine with_tabW entrepotlaw08_CanonNormal.tab4 entrepotlaw08_CanonNormal.bits4 (fun HT_ HW_ => ?_)
       generalize w50.drew = w51 at HO404 HO407 BK392 BK408 HB hHeld ⊢
       refine take_ (i := 0) (N := some 17) (v := ?_) (a' := ?_) CN1_ rfl rfl (take_ofW HT_.out HW_.out (by kernel_rfl)) (fun _ _ _ h => h) (Or.inl ⟨by rfl, ?_⟩) hHeld ?_ ?_
       rotate_left
       ·rintro w' ⟨s0, s1, s2, s3, s4, s5, s6, s7, s8, s9, s10, s11, s12, s13, s14, s15⟩
        go_simp
        with_reducible rfl
       rotate_left
       ·simp only [Act.put, s1_, s2_, s3_, i64_w, i32_w]
        rfl
       refine take_ (i := 2) (N := some 19) (v := ?_) (a' := ?_) CN2_ rfl rfl (take_ofW HT_.out HW_.out (by kernel_rfl)) (fun _ _ _ h => h) (Or.inl ⟨by rfl, ?_⟩) hHeld ?_ ?_
       rotate_left
       ·rintro w' ⟨s0, s1, s2, s3, s4, s5, s6, s7, s8, s9, s10, s11, s12, s13, s14, s15⟩
        go_simp
        with_reducible rfl
       rotate_left
       ·simp only [Act.put, s1_, s2_, s3_, i64_w, i32_w]
        rfl
       refine one_ (i := 1) (N := some 18) CN3_ rfl rfl (one_of HT_.out (by kernel_rfl)) (by decide) (fun K hK => ?_)
       refine goes_ Try.func18 (by kernel_rfl) rfl #[.agg #[.string t396, .int .i64 t397, .int .i64 t398, .int .i64 t399, .int .i64 t400, .int .i64 t401, .slice Ao22 t402.length co22, .slice Ao23 t405.length co23]] (by rfl) rfl rfl (by (try simp only [List.map_toArray, List.map_cons, List.map_nil]); first | done | rfl | (simp only [List.length_drop, List.length_take]; rfl)) ?_
       with_reducible refine (canon_Norm.calls t396 t397 t398 t399 t400 t401 _ _ t402 _ _ t405 t409 t410 t411 t412 t413 t414 t415 t418 _ ?side1 ?side2 ?side3 ?side4 A24.out).mono ?_
       (case side1 => repeat (first | exact (Kd.R_reads' HO404.out).2.2 | (with_reducible refine Kd.C_alloc ?_ _) | (with_reducible refine Kd.C_drewN ?_ _) | (with_reducible refine Kd.C_drew ?_)))
       (case side2 => exact (Kd.R_reads' HO404.out).2.1)
       (case side3 => repeat (first | exact (Kd.R_reads' HO407.out).2.2 | (with_reducible refine Kd.C_alloc ?_ _) | (with_reducible refine Kd.C_drewN ?_ _) | (with_reducible refine Kd.C_drew ?_)))
       (case side4 => exact (Kd.R_reads' HO407.out).2.1)
       rintro e w52 ⟨v416, v419, rfl, ho0, ho1, hb⟩
       refine ⟨_, rfl, ?_⟩
       have n0_ := Am (Kd.R_elder' (by (with_reducible repeat (first | apply Kd.R_alloc | apply Kd.R_drewN | apply Kd.R_drew)); exact HO404.out) (Kd.R_base ho0) hb)
       have n1_ := Am (Kd.R_elder' (by (with_reducible repeat (first | apply Kd.R_alloc | apply Kd.R_drewN | apply Kd.R_drew)); exact HO407.out) (Kd.R_base ho1) hb)
       have n2_ := Am (Kd.R_lower (Kd.R_new' ho0 (Kd.R_lt (by (with_reducible repeat (first | apply Kd.R_alloc | apply Kd.R_drewN | apply Kd.R_drew)); exact HO404.out))) (below_size (by repeat (first | (with_reducible first | exact HB.out | apply below_alloc | apply pw_below_drewN | apply below_drew1 | refine below_set ?_ GE392.out | refine below_set ?_ GE408.out) | exact HB.out))))
       have n3_ := Am (Kd.R_lower (Kd.R_new' ho1 (Kd.R_lt (by (with_reducible repeat (first | apply Kd.R_alloc | apply Kd.R_drewN | apply Kd.R_drew)); exact HO407.out))) (below_size (by repeat (first | (with_reducible first | exact HB.out | apply below_alloc | apply pw_below_drewN | apply below_drew1 | refine below_set ?_ GE392.out | refine below_set ?_ GE408.out) | exact HB.out))))
       have n4_ := Am (blk_below (g := gb392) (o := .cells #[.string a0_0, .int .i64 a0_1, .int .i64 a0_2, .int .i64 a0_3, .int .i64 a0_4, .int .i64 a0_5, .slice A0_6 l0_6.length c0_6, .slice A0_7 l0_7.length c0_7] 25 (0, 0)) (by (with_reducible repeat (first | refine blk_drewN ?_ _ | refine blk_drew ?_ | refine blk_alloc ?_ _)); exact BK392.out) hb)
       have n5_ := Am (blk_below (g := gb408) (o := .cells #[.string t396, .int .i64 t397, .int .i64 t398, .int .i64 t399, .int .i64 t400, .int .i64 t401, .slice Ao22 t402.length co22, .slice Ao23 t405.length co23] 25 (0, 0)) (by (with_reducible repeat (first | refine blk_drewN ?_ _ | refine blk_drew ?_ | refine blk_alloc ?_ _)); exact BK408.out) hb)
       have n6_ := Am (below_step (by repeat (first | (with_reducible first | exact HB.out | apply below_alloc | apply pw_below_drewN | apply below_drew1 | refine below_set ?_ GE392.out | refine below_set ?_ GE408.out) | exact HB.out)) hb)
       clear HO404
       clear HO407
       clear BK392
       clear BK408
       clear HB
       have HO404 := n0_
       have HO407 := n1_
       have HO417 := n2_
       have HO420 := n3_
       have BK392 := n4_
       have BK408 := n5_
       have HB := n6_
       clear n0_ n1_ n2_ n3_ n4_ n5_ n6_
       (try clear hb)
       (try clear hb2)
       (try clear hk)
       (try clear hi)
       (try clear ho0)
       (try clear ho1)
       obtain ⟨Ao53, co53, eo53⟩ := Kd.R_slice HO417.out
       (first | subst eo53 | (injection eo53 with f1_ f2_ f3_; have f4_ := f1_.symm; have f5_ := f3_.symm; clear f1_ f2_ f3_; subst f4_; subst f5_))
       obtain ⟨Ao54, co54, eo54⟩ := Kd.R_slice HO420.out
       (first | subst eo54 | (injection eo54 with f1_ f2_ f3_; have f4_ := f1_.symm; have f5_ := f3_.symm; clear f1_ f2_ f3_; subst f4_; subst f5_))
       refine hK.out _ _ ⟨(blk_cell BK408.out 0).trans rfl, (blk_cell BK408.out 1).trans rfl, (blk_cell BK408.out 2).trans rfl, (blk_cell BK408.out 3).trans rfl, (blk_cell BK408.out 4).trans rfl, (blk_cell BK408.out 5).trans rfl, (blk_cell BK408.out 6).trans rfl, (blk_cell BK408.out 7).trans rfl, (blk_cell BK392.out 0).trans rfl, (blk_cell BK392.out 1).trans rfl, (blk_cell BK392.out 2).trans rfl, (blk_cell BK392.out 3).trans rfl, (blk_cell BK392.out 4).trans rfl, (blk_cell BK392.out 5).trans rfl, (blk_cell BK392.out 6).trans rfl, (blk_cell BK392.out 7).trans rfl⟩ (fun hHeld => ?_)
       clear hK K
       refine norm_ (a' := ?_) ?_ ?_
       rotate_left
       ·show Act.put _ (some 18) _ = _
        simp only [Act.put, s1_, s2_, s3_, i64_w, i32_w]
        rfl
       refine one_ (i := 3) (N := some 20) CN4_ rfl rfl (one_of HT_.out (by kernel_rfl)) (by decide) (fun K hK => ?_)
       refine goes_ Try.func20 (by kernel_rfl) rfl #[.agg #[.string t409, .int .i64 t410, .int .i64 t411, .int .i64 t412, .int .i64 t413, .int .i64 t414, .slice Ao53 t415.length co53, .slice Ao54 t418.length co54], .agg #[.string t396, .int .i64 t397, .int .i64 t398, .int .i64 t399, .int .i64 t400, .int .i64 t401, .slice Ao22 t402.length co22, .slice Ao23 t405.length co23]] (by rfl) rfl rfl (by (try simp only [List.map_toArray, List.map_cons, List.map_nil]); first | done | rfl | (simp only [List.length_drop, List.length_take]; rfl)) ?_
       with_reducible refine (canon_Same.calls t409 t410 t411 t412 t413 t414 _ _ t415 _ _ t418 t396 t397 t398 t399 t400 t401 _ _ t402 _ _ t405 true _ ?side1 ?side2 ?side3 ?side4 ?side5 ?side6 ?side7 ?side8 A25.out).mono ?_
       (case side1 => repeat (first | exact (Kd.R_reads' HO417.out).2.2 | (with_reducible refine Kd.C_alloc ?_ _) | (with_reducible refine Kd.C_drewN ?_ _) | (with_reducible refine Kd.C_drew ?_)))
       (case side2 => exact (Kd.R_reads' HO417.out).2.1)
       (case side3 => repeat (first | exact (Kd.R_reads' HO420.out).2.2 | (with_reducible refine Kd.C_alloc ?_ _) | (with_reducible refine Kd.C_drewN ?_ _) | (with_reducible refine Kd.C_drew ?_)))
       (case side4 => exact (Kd.R_reads' HO420.out).2.1)
       (case side5 => repeat (first | exact (Kd.R_reads' HO404.out).2.2 | (with_reducible refine Kd.C_alloc ?_ _) | (with_reducible refine Kd.C_drewN ?_ _) | (with_reducible refine Kd.C_drew ?_)))
       (case side6 => exact (Kd.R_reads' HO404.out).2.1)
       (case side7 => repeat (first | exact (Kd.R_reads' HO407.out).2.2 | (with_reducible refine Kd.C_alloc ?_ _) | (with_reducible refine Kd.C_drewN ?_ _) | (with_reducible refine Kd.C_drew ?_)))
       (case side8 => exact (Kd.R_reads' HO407.out).2.1)
       rintro e w55 ⟨rfl, hb⟩
       refine ⟨_, rfl, ?_⟩
       have n0_ := Am (Kd.R_below (by (with_reducible repeat (first | apply Kd.R_alloc | apply Kd.R_drewN | apply Kd.R_drew)); exact HO404.out) hb)
       have n1_ := Am (Kd.R_below (by (with_reducible repeat (first | apply Kd.R_alloc | apply Kd.R_drewN | apply Kd.R_drew)); exact HO407.out) hb)
       have n2_ := Am (Kd.R_below (by (with_reducible repeat (first | apply Kd.R_alloc | apply Kd.R_drewN | apply Kd.R_drew)); exact HO417.out) hb)
       have n3_ := Am (Kd.R_below (by (with_reducible repeat (first | apply Kd.R_alloc | apply Kd.R_drewN | apply Kd.R_drew)); exact HO420.out) hb)
       have n4_ := Am (blk_below (g := gb392) (o := .cells #[.string a0_0, .int .i64 a0_1, .int .i64 a0_2, .int .i64 a0_3, .int .i64 a0_4, .int .i64 a0_5, .slice A0_6 l0_6.length c0_6, .slice A0_7 l0_7.length c0_7] 25 (0, 0)) (by (with_reducible repeat (first | refine blk_drewN ?_ _ | refine blk_drew ?_ | refine blk_alloc ?_ _)); exact BK392.out) hb)
       have n5_ := Am (blk_below (g := gb408) (o := .cells #[.string t396, .int .i64 t397, .int .i64 t398, .int .i64 t399, .int .i64 t400, .int .i64 t401, .slice Ao22 t402.length co22, .slice Ao23 t405.length co23] 25 (0, 0)) (by (with_reducible repeat (first | refine blk_drewN ?_ _ | refine blk_drew ?_ | refine blk_alloc ?_ _)); exact BK408.out) hb)
       have n6_ := Am (below_step (by repeat (first | (with_reducible first | exact HB.out | apply below_alloc | apply pw_below_drewN | apply below_drew1 | refine below_set ?_ GE392.out | refine below_set ?_ GE408.out) | exact HB.out)) hb)
       clear HO404
       clear HO407
       clear HO417
       clear HO420
       clear BK392
       clear BK408
       clear HB
       have HO404 := n0_
       have HO407 := n1_
       have HO417 := n2_
       have HO420 := n3_
       have BK392 := n4_
       have BK408 := n5_
       have HB := n6_
       clear n0_ n1_ n2_ n3_ n4_ n5_ n6_
       (try clear hb)
       (try clear hb2)
       (try clear hk)
       (try clear hi)
       refine hK.out _ _ ⟨(blk_cell BK408.out 0).trans rfl, (blk_cell BK408.out 1).trans rfl, (blk_cell BK408.out 2).trans rfl, (blk_cell BK408.out 3).trans rfl, (blk_cell BK408.out 4).trans rfl, (blk_cell BK408.out 5).trans rfl, (blk_cell BK408.out 6).trans rfl, (blk_cell BK408.out 7).trans rfl, (blk_cell BK392.out 0).trans rfl, (blk_cell BK392.out 1).trans rfl, (blk_cell BK392.out 2).trans rfl, (blk_cell BK392.out 3).trans rfl, (blk_cell BK392.out 4).trans rfl, (blk_cell BK392.out 5).trans rfl, (blk_cell BK392.out 6).trans rfl, (blk_cell BK392.out 7).trans rfl⟩ (fun hHeld => ?_)
       clear hK K
       refine norm_ (a' := ?_) ?_ ?_
       rotate_left
       ·show Act.put _ (some 20) _ = _
        simp only [Act.put, s1_, s2_, s3_, i64_w, i32_w]
        rfl
       refine pure_ (i := 4) (N := some 21) (v := ?_) (a' := ?_) CN5_ rfl rfl (any_of HT_.out (by kernel_rfl)) (fun _ _ _ h => h) (Or.inl ⟨by rfl, ?_⟩) ?_ ?_
       rotate_left
       ·intro w'
        go_simp
        with_reducible rfl
       rotate_left
       ·simp only [Act.put, s1_, s2_, s3_, i64_w, i32_w]
        rfl
       refine pure_ (i := 5) (N := some 22) (v := ?_) (a' := ?_) CN6_ rfl rfl (any_of HT_.out (by kernel_rfl)) (fun _ _ _ h => h) (Or.inl ⟨by rfl, ?_⟩) ?_ ?_
       rotate_left
       ·intro w'
        go_simp
        with_reducible rfl
       rotate_left
       ·simp only [Act.put, s1_, s2_, s3_, i64_w, i32_w]
        rfl
       refine take_ (i := 6) (N := some 23) (v := ?_) (a' := ?_) CN7_ rfl rfl (take_ofW HT_.out HW_.out (by kernel_rfl)) (fun _ _ _ h => h) (Or.inl ⟨by rfl, ?_⟩) hHeld ?_ ?_
       rotate_left
       ·rintro w' ⟨s0, s1, s2, s3, s4, s5, s6, s7, s8, s9, s10, s11, s12, s13, s14, s15⟩
        go_simp
        with_reducible rfl
       rotate_left
       ·simp only [Act.put, s1_, s2_, s3_, i64_w, i32_w]
        rfl
       refine one_ (i := 7) (N := some 24) CN8_ rfl rfl (one_of HT_.out (by kernel_rfl)) (by decide) (fun K hK => ?_)
       refine goes_ Try.func16 (by kernel_rfl) rfl #[.agg #[.string a0_0, .int .i64 a0_1, .int .i64 a0_2, .int .i64 a0_3, .int .i64 a0_4, .int .i64 a0_5, .slice A0_6 l0_6.length c0_6, .slice A0_7 l0_7.length c0_7]] (by rfl) rfl rfl (by (try simp only [List.map_toArray, List.map_cons, List.map_nil]); first | done | rfl | (simp only [List.length_drop, List.length_take]; rfl)) ?_
       with_reducible refine (canon_Well.calls a0_0 a0_1 a0_2 a0_3 a0_4 a0_5 _ _ l0_6 _ _ l0_7 false _ ?side1 ?side2 ?side3 ?side4 A27.out).mono ?_
       (case side1 => repeat (first | exact (Kd.C_below HR0_6.out HB.out) | (with_reducible refine Kd.C_alloc ?_ _) | (with_reducible refine Kd.C_drewN ?_ _) | (with_reducible refine Kd.C_drew ?_)))
       (case side2 => exact HC0_6.out)
       (case side3 => repeat (first | exact (Kd.C_below HR0_7.out HB.out) | (with_reducible refine Kd.C_alloc ?_ _) | (with_reducible refine Kd.C_drewN ?_ _) | (with_reducible refine Kd.C_drew ?_)))
       (case side4 => exact HC0_7.out)
       rintro e w56 ⟨rfl, hb⟩
       refine ⟨_, rfl, ?_⟩
       have n0_ := Am (Kd.R_below (by (with_reducible repeat (first | apply Kd.R_alloc | apply Kd.R_drewN | apply Kd.R_drew)); exact HO404.out) hb)
       have n1_ := Am (Kd.R_below (by (with_reducible repeat (first | apply Kd.R_alloc | apply Kd.R_drewN | apply Kd.R_drew)); exact HO407.out) hb)
       have n2_ := Am (Kd.R_below (by (with_reducible repeat (first | apply Kd.R_alloc | apply Kd.R_drewN | apply Kd.R_drew)); exact HO417.out) hb)
       have n3_ := Am (Kd.R_below (by (with_reducible repeat (first | apply Kd.R_alloc | apply Kd.R_drewN | apply Kd.R_drew)); exact HO420.out) hb)
       have n4_ := Am (blk_below (g := gb392) (o := .cells #[.string a0_0, .int .i64 a0_1, .int .i64 a0_2, .int .i64 a0_3, .int .i64 a0_4, .int .i64 a0_5, .slice A0_6 l0_6.length c0_6, .slice A0_7 l0_7.length c0_7] 25 (0, 0)) (by (with_reducible repeat (first | refine blk_drewN ?_ _ | refine blk_drew ?_ | refine blk_alloc ?_ _)); exact BK392.out) hb)
       have n5_ := Am (blk_below (g := gb408) (o := .cells #[.string t396, .int .i64 t397, .int .i64 t398, .int .i64 t399, .int .i64 t400, .int .i64 t401, .slice Ao22 t402.length co22, .slice Ao23 t405.length co23] 25 (0, 0)) (by (with_reducible repeat (first | refine blk_drewN ?_ _ | refine blk_drew ?_ | refine blk_alloc ?_ _)); exact BK408.out) hb)
       have n6_ := Am (below_step (by repeat (first | (with_reducible first | exact HB.out | apply below_alloc | apply pw_below_drewN | apply below_drew1 | refine below_set ?_ GE392.out | refine below_set ?_ GE408.out) | exact HB.out)) hb)
       clear HO404
       clear HO407
       clear HO417
       clear HO420
       clear BK392
       clear BK408
       clear HB
       have HO404 := n0_
       have HO407 := n1_
       have HO417 := n2_
       have HO420 := n3_
       have BK392 := n4_
       have BK408 := n5_
       have HB := n6_
       clear n0_ n1_ n2_ n3_ n4_ n5_ n6_
       (try clear hb)
       (try clear hb2)
       (try clear hk)
       (try clear hi)
       refine hK.out _ _ ⟨(blk_cell BK408.out 0).trans rfl, (blk_cell BK408.out 1).trans rfl, (blk_cell BK408.out 2).trans rfl, (blk_cell BK408.out 3).trans rfl, (blk_cell BK408.out 4).trans rfl, (blk_cell BK408.out 5).trans rfl, (blk_cell BK408.out 6).trans rfl, (blk_cell BK408.out 7).trans rfl, (blk_cell BK392.out 0).trans rfl, (blk_cell BK392.out 1).trans rfl, (blk_cell BK392.out 2).trans rfl, (blk_cell BK392.out 3).trans rfl, (blk_cell BK392.out 4).trans rfl, (blk_cell BK392.out 5).trans rfl, (blk_cell BK392.out 6).trans rfl, (blk_cell BK392.out 7).trans rfl⟩ (fun hHeld => ?_)
       clear hK K
       refine norm_ (a' := ?_) ?_ ?_
       rotate_left
       ·show Act.put _ (some 24) _ = _
        simp only [Act.put, s1_, s2_, s3_, i64_w, i32_w]
        rfl
       refine pure_ (i := 8) (N := some 25) (v := ?_) (a' := ?_) CN9_ rfl rfl (any_of HT_.out (by kernel_rfl)) (fun _ _ _ h => h) (Or.inl ⟨by rfl, ?_⟩) ?_ ?_
       rotate_left
       ·intro w'
        go_simp
        with_reducible rfl
       rotate_left
       ·simp only [Act.put, s1_, s2_, s3_, i64_w, i32_w]
        rfl
       refine pure_ (i := 9) (N := some 26) (v := undef) (a' := ?_) CN10_ rfl rfl (any_of HT_.out (by kernel_rfl)) (fun _ _ _ h => h) (Or.inr ⟨by rfl, rfl⟩) ?_ ?_
       rotate_left
       ·simp only [Act.put, s1_, s2_, s3_, i64_w, i32_w]
        rfl
       refine pure_ (i := 10) (N := some 27) (v := undef) (a' := ?_) CN11_ rfl rfl (any_of HT_.out (by kernel_rfl)) (fun _ _ _ h => h) (Or.inr ⟨by rfl, rfl⟩) ?_ ?_
       rotate_left
       ·simp only [Act.put, s1_, s2_, s3_, i64_w, i32_w]
        rfl
       refine pure_ (i := 11) (N := some 28) (v := undef) (a' := ?_) CN12_ rfl rfl (any_of HT_.out (by kernel_rfl)) (fun _ _ _ h => h) (Or.inr ⟨by rfl, rfl⟩) ?_ ?_
       rotate_left
       ·simp only [Act.put, s1_, s2_, s3_, i64_w, i32_w]
        rfl
       refine pure_ (i := 12) (N := some 29) (v := ?_) (a' := ?_) CN13_ rfl rfl (any_of HT_.out (by kernel_rfl)) (fun _ _ _ h => h) (Or.inl ⟨by rfl, ?_⟩) ?_ ?_
       rotate_left
       ·intro w'
        go_simp
        with_reducible rfl
       rotate_left
       ·simp only [Act.put, s1_, s2_, s3_, i64_w, i32_w]
        rfl
       refine pure_ (i := 13) (N := some 30) (v := ?_) (a' := ?_) CN14_ rfl rfl (any_of HT_.out (by kernel_rfl)) (fun _ _ _ h => h) (Or.inl ⟨by rfl, ?_⟩) ?_ ?_
       rotate_left
       ·intro w'
        go_simp
        with_reducible rfl
       rotate_left
       ·simp only [Act.put, s1_, s2_, s3_, i64_w, i32_w]
        rfl
       refine pure_ (i := 14) (N := some 31) (v := ?_) (a' := ?_) CN15_ rfl rfl (any_of HT_.out (by kernel_rfl)) (fun _ _ _ h => h) (Or.inl ⟨by rfl, ?_⟩) ?_ ?_
       rotate_left
       ·intro w'
        go_simp
        with_reducible rfl
       rotate_left
       ·simp only [Act.put, s1_, s2_, s3_, i64_w, i32_w]
        rfl
       refine take_ (i := 15) (N := some 32) (v := ?_) (a' := ?_) CN16_ rfl rfl (take_ofW HT_.out HW_.out (by kernel_rfl)) (fun _ _ _ h => h) (Or.inl ⟨by rfl, ?_⟩) hHeld ?_ ?_
       rotate_left
       ·rintro w' ⟨s0, s1, s2, s3, s4, s5, s6, s7, s8, s9, s10, s11, s12, s13, s14, s15⟩
        go_simp
        with_reducible rfl
       rotate_left
       ·simp only [Act.put, s1_, s2_, s3_, i64_w, i32_w]
        rfl
       refine take_ (i := 16) (N := some 33) (v := ?_) (a' := ?_) CN17_ rfl rfl (take_ofW HT_.out HW_.out (by kernel_rfl)) (fun _ _ _ h => h) (Or.inl ⟨by rfl, ?_⟩) hHeld ?_ ?_
       rotate_left
       ·rintro w' ⟨s0, s1, s2, s3, s4, s5, s6, s7, s8, s9, s10, s11, s12, s13, s14, s15⟩
        go_simp
        with_reducible rfl
       rotate_left
       ·simp only [Act.put, s1_, s2_, s3_, i64_w, i32_w]
        rfl
       refine one_ (i := 17) (N := some 34) CN18_ rfl rfl (one_of HT_.out (by kernel_rfl)) (by decide) (fun K hK => ?_)
       refine goes_ Try.func20 (by kernel_rfl) rfl #[.agg #[.string a0_0, .int .i64 a0_1, .int .i64 a0_2, .int .i64 a0_3, .int .i64 a0_4, .int .i64 a0_5, .slice A0_6 l0_6.length c0_6, .slice A0_7 l0_7.length c0_7], .agg #[.string a0_0, .int .i64 a0_1, .int .i64 a0_2, .int .i64 a0_3, .int .i64 a0_4, .int .i64 a0_5, .slice A0_6 l0_6.length c0_6, .slice A0_7 l0_7.length c0_7]] (by rfl) rfl rfl (by (try simp only [List.map_toArray, List.map_cons, List.map_nil]); first | done | rfl | (simp only [List.length_drop, List.length_take]; rfl)) ?_
       with_reducible refine (canon_Same.calls a0_0 a0_1 a0_2 a0_3 a0_4 a0_5 _ _ l0_6 _ _ l0_7 a0_0 a0_1 a0_2 a0_3 a0_4 a0_5 _ _ l0_6 _ _ l0_7 t425 _ ?side1 ?side2 ?side3 ?side4 ?side5 ?side6 ?side7 ?side8 A49.out).mono ?_
       (case side1 => repeat (first | exact (Kd.C_below HR0_6.out HB.out) | (with_reducible refine Kd.C_alloc ?_ _) | (with_reducible refine Kd.C_drewN ?_ _) | (with_reducible refine Kd.C_drew ?_)))
       (case side2 => exact HC0_6.out)
       (case side3 => repeat (first | exact (Kd.C_below HR0_7.out HB.out) | (with_reducible refine Kd.C_alloc ?_ _) | (with_reducible refine Kd.C_drewN ?_ _) | (with_reducible refine Kd.C_drew ?_)))
       (case side4 => exact HC0_7.out)
       (case side5 => repeat (first | exact (Kd.C_below HR0_6.out HB.out) | (with_reducible refine Kd.C_alloc ?_ _) | (with_reducible refine Kd.C_drewN ?_ _) | (with_reducible refine Kd.C_drew ?_)))
       (case side6 => exact HC0_6.out)
       (case side7 => repeat (first | exact (Kd.C_below HR0_7.out HB.out) | (with_reducible refine Kd.C_alloc ?_ _) | (with_reducible refine Kd.C_drewN ?_ _) | (with_reducible refine Kd.C_drew ?_)))
       (case side8 => exact HC0_7.out)
       rintro e w57 ⟨rfl, hb⟩
       refine ⟨_, rfl, ?_⟩
       have n0_ := Am (Kd.R_below (by (with_reducible repeat (first | apply Kd.R_alloc | apply Kd.R_drewN | apply Kd.R_drew)); exact HO404.out) hb)
       have n1_ := Am (Kd.R_below (by (with_reducible repeat (first | apply Kd.R_alloc | apply Kd.R_drewN | apply Kd.R_drew)); exact HO407.out) hb)
       have n2_ := Am (Kd.R_below (by (with_reducible repeat (first | apply Kd.R_alloc | apply Kd.R_drewN | apply Kd.R_drew)); exact HO417.out) hb)
       have n3_ := Am (Kd.R_below (by (with_reducible repeat (first | apply Kd.R_alloc | apply Kd.R_drewN | apply Kd.R_drew)); exact HO420.out) hb)
       have n4_ := Am (blk_below (g := gb392) (o := .cells #[.string a0_0, .int .i64 a0_1, .int .i64 a0_2, .int .i64 a0_3, .int .i64 a0_4, .int .i64 a0_5, .slice A0_6 l0_6.length c0_6, .slice A0_7 l0_7.length c0_7] 25 (0, 0)) (by (with_reducible repeat (first | refine blk_drewN ?_ _ | refine blk_drew ?_ | refine blk_alloc ?_ _)); exact BK392.out) hb)
       have n5_ := Am (blk_below (g := gb408) (o := .cells #[.string t396, .int .i64 t397, .int .i64 t398, .int .i64 t399, .int .i64 t400, .int .i64 t401, .slice Ao22 t402.length co22, .slice Ao23 t405.length co23] 25 (0, 0)) (by (with_reducible repeat (first | refine blk_drewN ?_ _ | refine blk_drew ?_ | refine blk_alloc ?_ _)); exact BK408.out) hb)
       have n6_ := Am (below_step (by repeat (first | (with_reducible first | exact HB.out | apply below_alloc | apply pw_below_drewN | apply below_drew1 | refine below_set ?_ GE392.out | refine below_set ?_ GE408.out) | exact HB.out)) hb)
       clear HO404
       clear HO407
       clear HO417
       clear HO420
       clear BK392
       clear BK408
       clear HB
       have HO404 := n0_
       have HO407 := n1_
       have HO417 := n2_
       have HO420 := n3_
       have BK392 := n4_
       have BK408 := n5_
       have HB := n6_
       clear n0_ n1_ n2_ n3_ n4_ n5_ n6_
       (try clear hb)
       (try clear hb2)
       (try clear hk)
       (try clear hi)
       refine hK.out _ _ ⟨(blk_cell BK408.out 0).trans rfl, (blk_cell BK408.out 1).trans rfl, (blk_cell BK408.out 2).trans rfl, (blk_cell BK408.out 3).trans rfl, (blk_cell BK408.out 4).trans rfl, (blk_cell BK408.out 5).trans rfl, (blk_cell BK408.out 6).trans rfl, (blk_cell BK408.out 7).trans rfl, (blk_cell BK392.out 0).trans rfl, (blk_cell BK392.out 1).trans rfl, (blk_cell BK392.out 2).trans rfl, (blk_cell BK392.out 3).trans rfl, (blk_cell BK392.out 4).trans rfl, (blk_cell BK392.out 5).trans rfl, (blk_cell BK392.out 6).trans rfl, (blk_cell BK392.out 7).trans rfl⟩ (fun hHeld => ?_)
       clear hK K
       refine norm_ (a' := ?_) ?_ ?_
       rotate_left
       ·show Act.put _ (some 34) _ = _
        simp only [Act.put, s1_, s2_, s3_, i64_w, i32_w]
        rfl
       refine pure_ (i := 18) (N := some 35) (v := ?_) (a' := ?_) CN19_ rfl rfl (any_of HT_.out (by kernel_rfl)) (fun _ _ _ h => h) (Or.inl ⟨by rfl, ?_⟩) ?_ ?_
       rotate_left
       ·intro w'
        go_simp
        with_reducible rfl
       rotate_left
       ·simp only [Act.put, s1_, s2_, s3_, i64_w, i32_w]
        rfl
       refine pure_ (i := 19) (N := some 36) (v := ?_) (a' := ?_) CN20_ rfl rfl (any_of HT_.out (by kernel_rfl)) (fun _ _ _ h => h) (Or.inl ⟨by rfl, ?_⟩) ?_ ?_
       rotate_left
       ·intro w'
        go_simp
        with_reducible rfl
       rotate_left
       ·simp only [Act.put, s1_, s2_, s3_, i64_w, i32_w]
        rfl
       refine done_ (done_of HT_.out (by kernel_rfl)) ?_
       try go_wp2
       go_meet
       case rel => exact ⟨_, (!t425), (by first | rfl | (simp; done) | (simp [*]; done)), H', ⟨by have := HJ1.out; first | omega | exact Nat.le_refl _⟩, ⟨by (with_reducible repeat (first | apply Kd.R_alloc | apply Kd.R_drewN | apply Kd.R_drew)); exact Kd.R_mono HO404.out (fun _ hk => trivial)⟩, ⟨by (with_reducible repeat (first | apply Kd.R_alloc | apply Kd.R_drewN | apply Kd.R_drew)); exact Kd.R_mono HO407.out (fun _ hk => trivial)⟩, ⟨by (with_reducible repeat (first | refine blk_drewN ?_ _ | refine blk_drew ?_ | refine blk_alloc ?_ _)); exact BK392.out⟩, ⟨by (with_reducible repeat (first | refine blk_drewN ?_ _ | refine blk_drew ?_ | refine blk_alloc ?_ _)); exact BK408.out⟩, ⟨by repeat (first | (with_reducible first | exact HB.out | apply below_alloc | apply pw_below_drewN | apply below_drew1 | refine below_set ?_ GE392.out | refine below_set ?_ GE408.out) | exact HB.out)⟩⟩
     ·replace c26 := Bool.eq_false_iff.mpr c26
      subst c26
      have H1 : (entrepotlaw08_CanonNormal.j1 kj1 true a0_0 a0_1 a0_2 a0_3 a0_4 a0_5 l0_6 l0_7 t396 t397 t398 t399 t400 t401 t402 t405) = some r := by rw [if_neg (show ¬ (false = true) by decide)] at H; exact H
      clear H
      have H := H1
      clear H1
      have H' := Am H
      clear H
      try go_wp2
      have n0_ : Aside0 (Kd.R k46 46 ((((((((w19.setCell ⟨gb408, 0, none⟩ (.string t396)).setCell ⟨gb408, 1, none⟩ (.int .i64 t397)).setCell ⟨gb408, 2, none⟩ (.int .i64 t398)).setCell ⟨gb408, 3, none⟩ (.int .i64 t399)).setCell ⟨gb408, 4, none⟩ (.int .i64 t400)).setCell ⟨gb408, 5, none⟩ (.int .i64 t401)).setCell ⟨gb408, 6, none⟩ (.slice Ao22 t402.length co22)).setCell ⟨gb408, 7, none⟩ (.slice Ao23 t405.length co23)) w.heap.size (fun _ => True) (.slice Ao22 t402.length co22) t402) := ⟨by (with_reducible repeat (first | apply Kd.R_alloc | apply Kd.R_drewN | apply Kd.R_drew)); exact Kd.R_mono (Kd.R_far (p := ⟨gb408, 7, none⟩) (Kd.R_far (p := ⟨gb408, 6, none⟩) (Kd.R_far (p := ⟨gb408, 5, none⟩) (Kd.R_far (p := ⟨gb408, 4, none⟩) (Kd.R_far (p := ⟨gb408, 3, none⟩) (Kd.R_far (p := ⟨gb408, 2, none⟩) (Kd.R_far (p := ⟨gb408, 1, none⟩) (Kd.R_far (p := ⟨gb408, 0, none⟩) (Kd.R_types HO404.out BK408.out (by decide)) (fun _ hk => hk.2) (.string t396)) (fun _ hk => hk.2) (.int .i64 t397)) (fun _ hk => hk.2) (.int .i64 t398)) (fun _ hk => hk.2) (.int .i64 t399)) (fun _ hk => hk.2) (.int .i64 t400)) (fun _ hk => hk.2) (.int .i64 t401)) (fun _ hk => hk.2) (.slice Ao22 t402.length co22)) (fun _ hk => hk.2) (.slice Ao23 t405.length co23)) (fun _ hk => trivial)⟩
      have n1_ : Aside0 (Kd.R (Kd.int .i64) 3 ((((((((w19.setCell ⟨gb408, 0, none⟩ (.string t396)).setCell ⟨gb408, 1, none⟩ (.int .i64 t397)).setCell ⟨gb408, 2, none⟩ (.int .i64 t398)).setCell ⟨gb408, 3, none⟩ (.int .i64 t399)).setCell ⟨gb408, 4, none⟩ (.int .i64 t400)).setCell ⟨gb408, 5, none⟩ (.int .i64 t401)).setCell ⟨gb408, 6, none⟩ (.slice Ao22 t402.length co22)).setCell ⟨gb408, 7, none⟩ (.slice Ao23 t405.length co23)) w.heap.size (fun _ => True) (.slice Ao23 t405.length co23) t405) := ⟨by (with_reducible repeat (first | apply Kd.R_alloc | apply Kd.R_drewN | apply Kd.R_drew)); exact Kd.R_mono (Kd.R_far (p := ⟨gb408, 7, none⟩) (Kd.R_far (p := ⟨gb408, 6, none⟩) (Kd.R_far (p := ⟨gb408, 5, none⟩) (Kd.R_far (p := ⟨gb408, 4, none⟩) (Kd.R_far (p := ⟨gb408, 3, none⟩) (Kd.R_far (p := ⟨gb408, 2, none⟩) (Kd.R_far (p := ⟨gb408, 1, none⟩) (Kd.R_far (p := ⟨gb408, 0, none⟩) (Kd.R_types HO407.out BK408.out (by decide)) (fun _ hk => hk.2) (.string t396)) (fun _ hk => hk.2) (.int .i64 t397)) (fun _ hk => hk.2) (.int .i64 t398)) (fun _ hk => hk.2) (.int .i64 t399)) (fun _ hk => hk.2) (.int .i64 t400)) (fun _ hk => hk.2) (.int .i64 t401)) (fun _ hk => hk.2) (.slice Ao22 t402.length co22)) (fun _ hk => hk.2) (.slice Ao23 t405.length co23)) (fun _ hk => trivial)⟩
      have n2_ : Aside0 (((((((((w19.setCell ⟨gb408, 0, none⟩ (.string t396)).setCell ⟨gb408, 1, none⟩ (.int .i64 t397)).setCell ⟨gb408, 2, none⟩ (.int .i64 t398)).setCell ⟨gb408, 3, none⟩ (.int .i64 t399)).setCell ⟨gb408, 4, none⟩ (.int .i64 t400)).setCell ⟨gb408, 5, none⟩ (.int .i64 t401)).setCell ⟨gb408, 6, none⟩ (.slice Ao22 t402.length co22)).setCell ⟨gb408, 7, none⟩ (.slice Ao23 t405.length co23)).heap[gb392]? = some (.cells #[.string a0_0, .int .i64 a0_1, .int .i64 a0_2, .int .i64 a0_3, .int .i64 a0_4, .int .i64 a0_5, .slice A0_6 l0_6.length c0_6, .slice A0_7 l0_7.length c0_7] 25 (0, 0))) := ⟨by (with_reducible repeat (first | refine blk_drewN ?_ _ | refine blk_drew ?_ | refine blk_alloc ?_ _)); refine blk_far ?_ NB392_408.out _; (with_reducible repeat (first | refine blk_drewN ?_ _ | refine blk_drew ?_ | refine blk_alloc ?_ _)); refine blk_far ?_ NB392_408.out _; (with_reducible repeat (first | refine blk_drewN ?_ _ | refine blk_drew ?_ | refine blk_alloc ?_ _)); refine blk_far ?_ NB392_408.out _; (with_reducible repeat (first | refine blk_drewN ?_ _ | refine blk_drew ?_ | refine blk_alloc ?_ _)); refine blk_far ?_ NB392_408.out _; (with_reducible repeat (first | refine blk_drewN ?_ _ | refine blk_drew ?_ | refine blk_alloc ?_ _)); refine blk_far ?_ NB392_408.out _; (with_reducible repeat (first | refine blk_drewN ?_ _ | refine blk_drew ?_ | refine blk_alloc ?_ _)); refine blk_far ?_ NB392_408.out _; (with_reducible repeat (first | refine blk_drewN ?_ _ | refine blk_drew ?_ | refine blk_alloc ?_ _)); refine blk_far ?_ NB392_408.out _; (with_reducible repeat (first | refine blk_drewN ?_ _ | refine blk_drew ?_ | refine blk_alloc ?_ _)); refine blk_far ?_ NB392_408.out _; (with_reducible repeat (first | refine blk_drewN ?_ _ | refine blk_drew ?_ | refine blk_alloc ?_ _)); exact BK392.out⟩
      have n3_ : Aside0 (((((((((w19.setCell ⟨gb408, 0, none⟩ (.string t396)).setCell ⟨gb408, 1, none⟩ (.int .i64 t397)).setCell ⟨gb408, 2, none⟩ (.int .i64 t398)).setCell ⟨gb408, 3, none⟩ (.int .i64 t399)).setCell ⟨gb408, 4, none⟩ (.int .i64 t400)).setCell ⟨gb408, 5, none⟩ (.int .i64 t401)).setCell ⟨gb408, 6, none⟩ (.slice Ao22 t402.length co22)).setCell ⟨gb408, 7, none⟩ (.slice Ao23 t405.length co23)).heap[gb408]? = some (.cells #[.string t396, .int .i64 t397, .int .i64 t398, .int .i64 t399, .int .i64 t400, .int .i64 t401, .slice Ao22 t402.length co22, .slice Ao23 t405.length co23] 25 (0, 0))) := ⟨by (with_reducible repeat (first | refine blk_drewN ?_ _ | refine blk_drew ?_ | refine blk_alloc ?_ _)); refine blk_put (cs := #[.string t396, .int .i64 t397, .int .i64 t398, .int .i64 t399, .int .i64 t400, .int .i64 t401, .slice Ao22 t402.length co22, .slice none 0 0]) ?_ 7 _ rfl; (with_reducible repeat (first | refine blk_drewN ?_ _ | refine blk_drew ?_ | refine blk_alloc ?_ _)); refine blk_put (cs := #[.string t396, .int .i64 t397, .int .i64 t398, .int .i64 t399, .int .i64 t400, .int .i64 t401, .slice none 0 0, .slice none 0 0]) ?_ 6 _ rfl; (with_reducible repeat (first | refine blk_drewN ?_ _ | refine blk_drew ?_ | refine blk_alloc ?_ _)); refine blk_put (cs := #[.string t396, .int .i64 t397, .int .i64 t398, .int .i64 t399, .int .i64 t400, .int .i64 0, .slice none 0 0, .slice none 0 0]) ?_ 5 _ rfl; (with_reducible repeat (first | refine blk_drewN ?_ _ | refine blk_drew ?_ | refine blk_alloc ?_ _)); refine blk_put (cs := #[.string t396, .int .i64 t397, .int .i64 t398, .int .i64 t399, .int .i64 0, .int .i64 0, .slice none 0 0, .slice none 0 0]) ?_ 4 _ rfl; (with_reducible repeat (first | refine blk_drewN ?_ _ | refine blk_drew ?_ | refine blk_alloc ?_ _)); refine blk_put (cs := #[.string t396, .int .i64 t397, .int .i64 t398, .int .i64 0, .int .i64 0, .int .i64 0, .slice none 0 0, .slice none 0 0]) ?_ 3 _ rfl; (with_reducible repeat (first | refine blk_drewN ?_ _ | refine blk_drew ?_ | refine blk_alloc ?_ _)); refine blk_put (cs := #[.string t396, .int .i64 t397, .int .i64 0, .int .i64 0, .int .i64 0, .int .i64 0, .slice none 0 0, .slice none 0 0]) ?_ 2 _ rfl; (with_reducible repeat (first | refine blk_drewN ?_ _ | refine blk_drew ?_ | refine blk_alloc ?_ _)); refine blk_put (cs := #[.string t396, .int .i64 0, .int .i64 0, .int .i64 0, .int .i64 0, .int .i64 0, .slice none 0 0, .slice none 0 0]) ?_ 1 _ rfl; (with_reducible repeat (first | refine blk_drewN ?_ _ | refine blk_drew ?_ | refine blk_alloc ?_ _)); refine blk_put (cs := #[.string (⟨#[]⟩ : ByteArray), .int .i64 0, .int .i64 0, .int .i64 0, .int .i64 0, .int .i64 0, .slice none 0 0, .slice none 0 0]) ?_ 0 _ rfl; (with_reducible repeat (first | refine blk_drewN ?_ _ | refine blk_drew ?_ | refine blk_alloc ?_ _)); exact BK408.out⟩
      have n4_ : Aside0 (Below w.heap.size w ((((((((w19.setCell ⟨gb408, 0, none⟩ (.string t396)).setCell ⟨gb408, 1, none⟩ (.int .i64 t397)).setCell ⟨gb408, 2, none⟩ (.int .i64 t398)).setCell ⟨gb408, 3, none⟩ (.int .i64 t399)).setCell ⟨gb408, 4, none⟩ (.int .i64 t400)).setCell ⟨gb408, 5, none⟩ (.int .i64 t401)).setCell ⟨gb408, 6, none⟩ (.slice Ao22 t402.length co22)).setCell ⟨gb408, 7, none⟩ (.slice Ao23 t405.length co23))) := ⟨by repeat (first | (with_reducible first | exact HB.out | apply below_alloc | apply pw_below_drewN | apply below_drew1 | refine below_set ?_ GE392.out | refine below_set ?_ GE408.out) | exact HB.out)⟩
      (try clear HO404)
      (try clear HO407)
      (try clear BK392)
      (try clear BK408)
      (try clear HB)
      generalize ((((((((w19.setCell ⟨gb408, 0, none⟩ (.string t396)).setCell ⟨gb408, 1, none⟩ (.int .i64 t397)).setCell ⟨gb408, 2, none⟩ (.int .i64 t398)).setCell ⟨gb408, 3, none⟩ (.int .i64 t399)).setCell ⟨gb408, 4, none⟩ (.int .i64 t400)).setCell ⟨gb408, 5, none⟩ (.int .i64 t401)).setCell ⟨gb408, 6, none⟩ (.slice Ao22 t402.length co22)).setCell ⟨gb408, 7, none⟩ (.slice Ao23 t405.length co23)) = w58 at n0_ n1_ n2_ n3_ n4_ ⊢
      have HO404 := n0_
      have HO407 := n1_
      have BK392 := n2_
      have BK408 := n3_
      have HB := n4_
      clear n0_ n1_ n2_ n3_ n4_
      have n0_ := Am (Kd.R_drew HO404.out)
      have n1_ := Am (Kd.R_drew HO407.out)
      have n2_ := Am (blk_drew BK392.out)
      have n3_ := Am (blk_drew BK408.out)
      have n4_ := Am (below_drew1 HB.out)
      clear HO404
      clear HO407
      clear BK392
      clear BK408
      clear HB
      have HO404 := n0_
      have HO407 := n1_
      have BK392 := n2_
      have BK408 := n3_
      have HB := n4_
      clear n0_ n1_ n2_ n3_ n4_
      refine start_ (n := 20) (S := fun w' => w'.cell? ⟨gb408, 0, none⟩ = some (.string t396) ∧ w'.cell? ⟨gb408, 1, none⟩ = some (.int .i64 t397) ∧ w'.cell? ⟨gb408, 2, none⟩ = some (.int .i64 t398) ∧ w'.cell? ⟨gb408, 3, none⟩ = some (.int .i64 t399) ∧ w'.cell? ⟨gb408, 4, none⟩ = some (.int .i64 t400) ∧ w'.cell? ⟨gb408, 5, none⟩ = some (.int .i64 t401) ∧ w'.cell? ⟨gb408, 6, none⟩ = some (.slice Ao22 t402.length co22) ∧ w'.cell? ⟨gb408, 7, none⟩ = some (.slice Ao23 t405.length co23)) (ds := []) CN0_ (by kernel_rfl) rfl rfl ⟨(blk_cell BK408.out 0).trans rfl, (blk_cell BK408.out 1).trans rfl, (blk_cell BK408.out 2).trans rfl, (blk_cell BK408.out 3).trans rfl, (blk_cell BK408.out 4).trans rfl, (blk_cell BK408.out 5).trans rfl, (blk_cell BK408.out 6).trans rfl, (blk_cell BK408.out 7).trans rfl⟩ (fun hHeld => ?_); refine with_tabW entrepotlaw08_CanonNormal.tab4 entrepotlaw08_CanonNormal.bits4 (fun HT_ HW_ => ?_)
      generalize w58.drew = w59 at HO404 HO407 BK392 BK408 HB hHeld ⊢
      refine take_ (i := 0) (N := some 17) (v := ?_) (a' := ?_) CN1_ rfl rfl (take_ofW HT_.out HW_.out (by kernel_rfl)) (fun _ _ _ h => h) (Or.inl ⟨by rfl, ?_⟩) hHeld ?_ ?_
      rotate_left
      ·rintro w' ⟨s0, s1, s2, s3, s4, s5, s6, s7⟩
       go_simp
       with_reducible rfl
      rotate_left
      ·simp only [Act.put, s1_, s2_, s3_, i64_w, i32_w]
       rfl
      refine take_ (i := 2) (N := some 19) (v := ?_) (a' := ?_) CN2_ rfl rfl (take_ofW HT_.out HW_.out (by kernel_rfl)) (fun _ _ _ h => h) (Or.inl ⟨by rfl, ?_⟩) hHeld ?_ ?_
      rotate_left
      ·rintro w' ⟨s0, s1, s2, s3, s4, s5, s6, s7⟩
       go_simp
       with_reducible rfl
      rotate_left
      ·simp only [Act.put, s1_, s2_, s3_, i64_w, i32_w]
       rfl
      refine one_ (i := 1) (N := some 18) CN3_ rfl rfl (one_of HT_.out (by kernel_rfl)) (by decide) (fun K hK => ?_)
      refine goes_ Try.func18 (by kernel_rfl) rfl #[.agg #[.string t396, .int .i64 t397, .int .i64 t398, .int .i64 t399, .int .i64 t400, .int .i64 t401, .slice Ao22 t402.length co22, .slice Ao23 t405.length co23]] (by rfl) rfl rfl (by (try simp only [List.map_toArray, List.map_cons, List.map_nil]); first | done | rfl | (simp only [List.length_drop, List.length_take]; rfl)) ?_
      with_reducible refine (canon_Norm.calls t396 t397 t398 t399 t400 t401 _ _ t402 _ _ t405 t409 t410 t411 t412 t413 t414 t415 t418 _ ?side1 ?side2 ?side3 ?side4 A24.out).mono ?_
      (case side1 => repeat (first | exact (Kd.R_reads' HO404.out).2.2 | (with_reducible refine Kd.C_alloc ?_ _) | (with_reducible refine Kd.C_drewN ?_ _) | (with_reducible refine Kd.C_drew ?_)))
      (case side2 => exact (Kd.R_reads' HO404.out).2.1)
      (case side3 => repeat (first | exact (Kd.R_reads' HO407.out).2.2 | (with_reducible refine Kd.C_alloc ?_ _) | (with_reducible refine Kd.C_drewN ?_ _) | (with_reducible refine Kd.C_drew ?_)))
      (case side4 => exact (Kd.R_reads' HO407.out).2.1)
      rintro e w60 ⟨v416, v419, rfl, ho0, ho1, hb⟩
      refine ⟨_, rfl, ?_⟩
      have n0_ := Am (Kd.R_elder' (by (with_reducible repeat (first | apply Kd.R_alloc | apply Kd.R_drewN | apply Kd.R_drew)); exact HO404.out) (Kd.R_base ho0) hb)
      have n1_ := Am (Kd.R_elder' (by (with_reducible repeat (first | apply Kd.R_alloc | apply Kd.R_drewN | apply Kd.R_drew)); exact HO407.out) (Kd.R_base ho1) hb)
      have n2_ := Am (Kd.R_lower (Kd.R_new' ho0 (Kd.R_lt (by (with_reducible repeat (first | apply Kd.R_alloc | apply Kd.R_drewN | apply Kd.R_drew)); exact HO404.out))) (below_size (by repeat (first | (with_reducible first | exact HB.out | apply below_alloc | apply pw_below_drewN | apply below_drew1 | refine below_set ?_ GE392.out | refine below_set ?_ GE408.out) | exact HB.out))))
      have n3_ := Am (Kd.R_lower (Kd.R_new' ho1 (Kd.R_lt (by (with_reducible repeat (first | apply Kd.R_alloc | apply Kd.R_drewN | apply Kd.R_drew)); exact HO407.out))) (below_size (by repeat (first | (with_reducible first | exact HB.out | apply below_alloc | apply pw_below_drewN | apply below_drew1 | refine below_set ?_ GE392.out | refine below_set ?_ GE408.out) | exact HB.out))))
      have n4_ := Am (blk_below (g := gb392) (o := .cells #[.string a0_0, .int .i64 a0_1, .int .i64 a0_2, .int .i64 a0_3, .int .i64 a0_4, .int .i64 a0_5, .slice A0_6 l0_6.length c0_6, .slice A0_7 l0_7.length c0_7] 25 (0, 0)) (by (with_reducible repeat (first | refine blk_drewN ?_ _ | refine blk_drew ?_ | refine blk_alloc ?_ _)); exact BK392.out) hb)
      have n5_ := Am (blk_below (g := gb408) (o := .cells #[.string t396, .int .i64 t397, .int .i64 t398, .int .i64 t399, .int .i64 t400, .int .i64 t401, .slice Ao22 t402.length co22, .slice Ao23 t405.length co23] 25 (0, 0)) (by (with_reducible repeat (first | refine blk_drewN ?_ _ | refine blk_drew ?_ | refine blk_alloc ?_ _)); exact BK408.out) hb)
      have n6_ := Am (below_step (by repeat (first | (with_reducible first | exact HB.out | apply below_alloc | apply pw_below_drewN | apply below_drew1 | refine below_set ?_ GE392.out | refine below_set ?_ GE408.out) | exact HB.out)) hb)
      clear HO404
      clear HO407
      clear BK392
      clear BK408
      clear HB
      have HO404 := n0_
      have HO407 := n1_
      have HO417 := n2_
      have HO420 := n3_
      have BK392 := n4_
      have BK408 := n5_
      have HB := n6_
      clear n0_ n1_ n2_ n3_ n4_ n5_ n6_
      (try clear hb)
      (try clear hb2)
      (try clear hk)
      (try clear hi)
      (try clear ho0)
      (try clear ho1)
      obtain ⟨Ao61, co61, eo61⟩ := Kd.R_slice HO417.out
      (first | subst eo61 | (injection eo61 with f1_ f2_ f3_; have f4_ := f1_.symm; have f5_ := f3_.symm; clear f1_ f2_ f3_; subst f4_; subst f5_))
      obtain ⟨Ao62, co62, eo62⟩ := Kd.R_slice HO420.out
      (first | subst eo62 | (injection eo62 with f1_ f2_ f3_; have f4_ := f1_.symm; have f5_ := f3_.symm; clear f1_ f2_ f3_; subst f4_; subst f5_))
      refine hK.out _ _ ⟨(blk_cell BK408.out 0).trans rfl, (blk_cell BK408.out 1).trans rfl, (blk_cell BK408.out 2).trans rfl, (blk_cell BK408.out 3).trans rfl, (blk_cell BK408.out 4).trans rfl, (blk_cell BK408.out 5).trans rfl, (blk_cell BK408.out 6).trans rfl, (blk_cell BK408.out 7).trans rfl⟩ (fun hHeld => ?_)
      clear hK K
      refine norm_ (a' := ?_) ?_ ?_
      rotate_left
      ·show Act.put _ (some 18) _ = _
       simp only [Act.put, s1_, s2_, s3_, i64_w, i32_w]
       rfl
      refine one_ (i := 3) (N := some 20) CN4_ rfl rfl (one_of HT_.out (by kernel_rfl)) (by decide) (fun K hK => ?_)
      refine goes_ Try.func20 (by kernel_rfl) rfl #[.agg #[.string t409, .int .i64 t410, .int .i64 t411, .int .i64 t412, .int .i64 t413, .int .i64 t414, .slice Ao61 t415.length co61, .slice Ao62 t418.length co62], .agg #[.string t396, .int .i64 t397, .int .i64 t398, .int .i64 t399, .int .i64 t400, .int .i64 t401, .slice Ao22 t402.length co22, .slice Ao23 t405.length co23]] (by rfl) rfl rfl (by (try simp only [List.map_toArray, List.map_cons, List.map_nil]); first | done | rfl | (simp only [List.length_drop, List.length_take]; rfl)) ?_
      with_reducible refine (canon_Same.calls t409 t410 t411 t412 t413 t414 _ _ t415 _ _ t418 t396 t397 t398 t399 t400 t401 _ _ t402 _ _ t405 false _ ?side1 ?side2 ?side3 ?side4 ?side5 ?side6 ?side7 ?side8 A25.out).mono ?_
      (case side1 => repeat (first | exact (Kd.R_reads' HO417.out).2.2 | (with_reducible refine Kd.C_alloc ?_ _) | (with_reducible refine Kd.C_drewN ?_ _) | (with_reducible refine Kd.C_drew ?_)))
      (case side2 => exact (Kd.R_reads' HO417.out).2.1)
      (case side3 => repeat (first | exact (Kd.R_reads' HO420.out).2.2 | (with_reducible refine Kd.C_alloc ?_ _) | (with_reducible refine Kd.C_drewN ?_ _) | (with_reducible refine Kd.C_drew ?_)))
      (case side4 => exact (Kd.R_reads' HO420.out).2.1)
      (case side5 => repeat (first | exact (Kd.R_reads' HO404.out).2.2 | (with_reducible refine Kd.C_alloc ?_ _) | (with_reducible refine Kd.C_drewN ?_ _) | (with_reducible refine Kd.C_drew ?_)))
      (case side6 => exact (Kd.R_reads' HO404.out).2.1)
      (case side7 => repeat (first | exact (Kd.R_reads' HO407.out).2.2 | (with_reducible refine Kd.C_alloc ?_ _) | (with_reducible refine Kd.C_drewN ?_ _) | (with_reducible refine Kd.C_drew ?_)))
      (case side8 => exact (Kd.R_reads' HO407.out).2.1)
      rintro e w63 ⟨rfl, hb⟩
      refine ⟨_, rfl, ?_⟩
      have n0_ := Am (Kd.R_below (by (with_reducible repeat (first | apply Kd.R_alloc | apply Kd.R_drewN | apply Kd.R_drew)); exact HO404.out) hb)
      have n1_ := Am (Kd.R_below (by (with_reducible repeat (first | apply Kd.R_alloc | apply Kd.R_drewN | apply Kd.R_drew)); exact HO407.out) hb)
      have n2_ := Am (Kd.R_below (by (with_reducible repeat (first | apply Kd.R_alloc | apply Kd.R_drewN | apply Kd.R_drew)); exact HO417.out) hb)
      have n3_ := Am (Kd.R_below (by (with_reducible repeat (first | apply Kd.R_alloc | apply Kd.R_drewN | apply Kd.R_drew)); exact HO420.out) hb)
      have n4_ := Am (blk_below (g := gb392) (o := .cells #[.string a0_0, .int .i64 a0_1, .int .i64 a0_2, .int .i64 a0_3, .int .i64 a0_4, .int .i64 a0_5, .slice A0_6 l0_6.length c0_6, .slice A0_7 l0_7.length c0_7] 25 (0, 0)) (by (with_reducible repeat (first | refine blk_drewN ?_ _ | refine blk_drew ?_ | refine blk_alloc ?_ _)); exact BK392.out) hb)
      have n5_ := Am (blk_below (g := gb408) (o := .cells #[.string t396, .int .i64 t397, .int .i64 t398, .int .i64 t399, .int .i64 t400, .int .i64 t401, .slice Ao22 t402.length co22, .slice Ao23 t405.length co23] 25 (0, 0)) (by (with_reducible repeat (first | refine blk_drewN ?_ _ | refine blk_drew ?_ | refine blk_alloc ?_ _)); exact BK408.out) hb)
      have n6_ := Am (below_step (by repeat (first | (with_reducible first | exact HB.out | apply below_alloc | apply pw_below_drewN | apply below_drew1 | refine below_set ?_ GE392.out | refine below_set ?_ GE408.out) | exact HB.out)) hb)
      clear HO404
      clear HO407
      clear HO417
      clear HO420
      clear BK392
      clear BK408
      clear HB
      have HO404 := n0_
      have HO407 := n1_
      have HO417 := n2_
      have HO420 := n3_
      have BK392 := n4_
      have BK408 := n5_
      have HB := n6_
      clear n0_ n1_ n2_ n3_ n4_ n5_ n6_
      (try clear hb)
      (try clear hb2)
      (try clear hk)
      (try clear hi)
      refine hK.out _ _ ⟨(blk_cell BK408.out 0).trans rfl, (blk_cell BK408.out 1).trans rfl, (blk_cell BK408.out 2).trans rfl, (blk_cell BK408.out 3).trans rfl, (blk_cell BK408.out 4).trans rfl, (blk_cell BK408.out 5).trans rfl, (blk_cell BK408.out 6).trans rfl, (blk_cell BK408.out 7).trans rfl⟩ (fun hHeld => ?_)
      clear hK K
      refine norm_ (a' := ?_) ?_ ?_
      rotate_left
      ·show Act.put _ (some 20) _ = _
       simp only [Act.put, s1_, s2_, s3_, i64_w, i32_w]
       rfl
      refine pure_ (i := 4) (N := some 21) (v := ?_) (a' := ?_) CN5_ rfl rfl (any_of HT_.out (by kernel_rfl)) (fun _ _ _ h => h) (Or.inl ⟨by rfl, ?_⟩) ?_ ?_
      rotate_left
      ·intro w'
       go_simp
       with_reducible rfl
      rotate_left
      ·simp only [Act.put, s1_, s2_, s3_, i64_w, i32_w]
       rfl
      refine pure_ (i := 5) (N := some 22) (v := ?_) (a' := ?_) CN6_ rfl rfl (any_of HT_.out (by kernel_rfl)) (fun _ _ _ h => h) (Or.inl ⟨by rfl, ?_⟩) ?_ ?_
      rotate_left
      ·intro w'
       go_simp
       with_reducible rfl
      rotate_left
      ·simp only [Act.put, s1_, s2_, s3_, i64_w, i32_w]
       rfl
      refine pure_ (i := 6) (N := some 23) (v := undef) (a' := ?_) CN7_ rfl rfl (any_of HT_.out (by kernel_rfl)) (fun _ _ _ h => h) (Or.inr ⟨by rfl, rfl⟩) ?_ ?_
      rotate_left
      ·simp only [Act.put, s1_, s2_, s3_, i64_w, i32_w]
       rfl
      refine pure_ (i := 7) (N := some 24) (v := undef) (a' := ?_) CN8_ rfl rfl (any_of HT_.out (by kernel_rfl)) (fun _ _ _ h => h) (Or.inr ⟨by rfl, rfl⟩) ?_ ?_
      rotate_left
      ·simp only [Act.put, s1_, s2_, s3_, i64_w, i32_w]
       rfl
      refine pure_ (i := 8) (N := some 25) (v := undef) (a' := ?_) CN9_ rfl rfl (any_of HT_.out (by kernel_rfl)) (fun _ _ _ h => h) (Or.inr ⟨by rfl, rfl⟩) ?_ ?_
      rotate_left
      ·simp only [Act.put, s1_, s2_, s3_, i64_w, i32_w]
       rfl
      refine pure_ (i := 9) (N := some 26) (v := undef) (a' := ?_) CN10_ rfl rfl (any_of HT_.out (by kernel_rfl)) (fun _ _ _ h => h) (Or.inr ⟨by rfl, rfl⟩) ?_ ?_
      rotate_left
      ·simp only [Act.put, s1_, s2_, s3_, i64_w, i32_w]
       rfl
      refine pure_ (i := 10) (N := some 27) (v := undef) (a' := ?_) CN11_ rfl rfl (any_of HT_.out (by kernel_rfl)) (fun _ _ _ h => h) (Or.inr ⟨by rfl, rfl⟩) ?_ ?_
      rotate_left
      ·simp only [Act.put, s1_, s2_, s3_, i64_w, i32_w]
       rfl
      refine pure_ (i := 11) (N := some 28) (v := undef) (a' := ?_) CN12_ rfl rfl (any_of HT_.out (by kernel_rfl)) (fun _ _ _ h => h) (Or.inr ⟨by rfl, rfl⟩) ?_ ?_
      rotate_left
      ·simp only [Act.put, s1_, s2_, s3_, i64_w, i32_w]
       rfl
      refine pure_ (i := 12) (N := some 29) (v := undef) (a' := ?_) CN13_ rfl rfl (any_of HT_.out (by kernel_rfl)) (fun _ _ _ h => h) (Or.inr ⟨by rfl, rfl⟩) ?_ ?_
      rotate_left
      ·simp only [Act.put, s1_, s2_, s3_, i64_w, i32_w]
       rfl
      refine pure_ (i := 13) (N := some 30) (v := ?_) (a' := ?_) CN14_ rfl rfl (any_of HT_.out (by kernel_rfl)) (fun _ _ _ h => h) (Or.inl ⟨by rfl, ?_⟩) ?_ ?_
      rotate_left
      ·intro w'
       go_simp
       with_reducible rfl
      rotate_left
      ·simp only [Act.put, s1_, s2_, s3_, i64_w, i32_w]
       rfl
      refine pure_ (i := 14) (N := some 31) (v := ?_) (a' := ?_) CN15_ rfl rfl (any_of HT_.out (by kernel_rfl)) (fun _ _ _ h => h) (Or.inl ⟨by rfl, ?_⟩) ?_ ?_
      rotate_left
      ·intro w'
       go_simp
       with_reducible rfl
      rotate_left
      ·simp only [Act.put, s1_, s2_, s3_, i64_w, i32_w]
       rfl
      refine pure_ (i := 15) (N := some 32) (v := undef) (a' := ?_) CN16_ rfl rfl (any_of HT_.out (by kernel_rfl)) (fun _ _ _ h => h) (Or.inr ⟨by rfl, rfl⟩) ?_ ?_
      rotate_left
      ·simp only [Act.put, s1_, s2_, s3_, i64_w, i32_w]
       rfl
      refine pure_ (i := 16) (N := some 33) (v := undef) (a' := ?_) CN17_ rfl rfl (any_of HT_.out (by kernel_rfl)) (fun _ _ _ h => h) (Or.inr ⟨by rfl, rfl⟩) ?_ ?_
      rotate_left
      ·simp only [Act.put, s1_, s2_, s3_, i64_w, i32_w]
       rfl
      refine pure_ (i := 17) (N := some 34) (v := undef) (a' := ?_) CN18_ rfl rfl (any_of HT_.out (by kernel_rfl)) (fun _ _ _ h => h) (Or.inr ⟨by rfl, rfl⟩) ?_ ?_
      rotate_left
      ·simp only [Act.put, s1_, s2_, s3_, i64_w, i32_w]
       rfl
      refine pure_ (i := 18) (N := some 35) (v := undef) (a' := ?_) CN19_ rfl rfl (any_of HT_.out (by kernel_rfl)) (fun _ _ _ h => h) (Or.inr ⟨by rfl, rfl⟩) ?_ ?_
      rotate_left
      ·simp only [Act.put, s1_, s2_, s3_, i64_w, i32_w]
       rfl
      refine pure_ (i := 19) (N := some 36) (v := ?_) (a' := ?_) CN20_ rfl rfl (any_of HT_.out (by kernel_rfl)) (fun _ _ _ h => h) (Or.inl ⟨by rfl, ?_⟩) ?_ ?_
      rotate_left
      ·intro w'
       go_simp
       with_reducible rfl
      rotate_left
      ·simp only [Act.put, s1_, s2_, s3_, i64_w, i32_w]
       rfl
      refine done_ (done_of HT_.out (by kernel_rfl)) ?_
      try go_wp2
      go_meet
      case rel => exact ⟨_, (true), (by first | rfl | (simp; done) | (simp [*]; done)), H', ⟨by have := HJ1.out; first | omega | exact Nat.le_refl _⟩, ⟨by (with_reducible repeat (first | apply Kd.R_alloc | apply Kd.R_drewN | apply Kd.R_drew)); exact Kd.R_mono HO404.out (fun _ hk => trivial)⟩, ⟨by (with_reducible repeat (first | apply Kd.R_alloc | apply Kd.R_drewN | apply Kd.R_drew)); exact Kd.R_mono HO407.out (fun _ hk => trivial)⟩, ⟨by (with_reducible repeat (first | refine blk_drewN ?_ _ | refine blk_drew ?_ | refine blk_alloc ?_ _)); exact BK392.out⟩, ⟨by (with_reducible repeat (first | refine blk_drewN ?_ _ | refine blk_drew ?_ | refine blk_alloc ?_ _)); exact BK408.out⟩, ⟨by repeat (first | (with_reducible first | exact HB.out | apply below_alloc | apply pw_below_drewN | apply below_drew1 | refine below_set ?_ GE392.out | refine below_set ?_ GE408.out) | exact HB.out)⟩⟩
    case rest =>
     clear HC16
     obtain ⟨kq, x36_15, rfl, HA, HJ15, HO_409g, HO_409h, BK392, BK408, HB⟩ := hcut
     cases kq with
     | zero => exact absurd HA.out (by simp [entrepotlaw08_CanonNormal.j1])
     | succ kj15 =>
      have H := HA.out
      clear HA
      simp only [entrepotlaw08_CanonNormal.j1] at H
      by_cases c64 : x36_15 = true
      ·subst c64
       have H1 : (some false) = some r := by rw [if_pos rfl] at H; exact H
       clear H
       have H := H1
       clear H1
       exact absurd ((Option.some.inj H).trans hr_.out) (by decide)
      ·replace c64 := Bool.eq_false_iff.mpr c64
       subst c64
       have H1 : ((canon_Check.f a0_0 a0_1 a0_2 a0_3 a0_4 a0_5 l0_6 l0_7).bind fun t426 => ((canon_Check.f t396 t397 t398 t399 t400 t401 t402 t405).bind fun t429 => (entrepotlaw08_CanonNormal.l0 kj15 t426 t429 0 0 a0_0 a0_1 a0_2 a0_3 a0_4 a0_5 l0_6 l0_7 t396 t397 t398 t399 t400 t401 t402 t405))) = some r := by rw [if_neg (show ¬ (false = true) by decide)] at H; exact H
       clear H
       have H := H1
       clear H1
       replace H := Option.bind_eq_some_iff.mp H
       obtain ⟨t426, A650, H⟩ := H
       replace H : ((canon_Check.f t396 t397 t398 t399 t400 t401 t402 t405).bind fun t429 => (entrepotlaw08_CanonNormal.l0 kj15 t426 t429 0 0 a0_0 a0_1 a0_2 a0_3 a0_4 a0_5 l0_6 l0_7 t396 t397 t398 t399 t400 t401 t402 t405)) = some r := H
       have A65 := Am A650
       clear A650
       replace H := Option.bind_eq_some_iff.mp H
       obtain ⟨t429, A660, H⟩ := H
       replace H : (entrepotlaw08_CanonNormal.l0 kj15 t426 t429 0 0 a0_0 a0_1 a0_2 a0_3 a0_4 a0_5 l0_6 l0_7 t396 t397 t398 t399 t400 t401 t402 t405) = some r := H
       have A66 := Am A660
       clear A660
       have H' := Am H
       clear H
       have hnb67 := NB392_408.out
       have hnc67 := NB408_392.out
       obtain ⟨hcz68_0, hcz68_1, hcz68_2, hcz68_3, hcz68_4, hcz68_5, hcz68_6, hcz68_7, hfz68_0, hfz68_1, hfz68_2, hfz68_3, hfz68_4, hfz68_5, hfz68_6, hfz68_7⟩ := blk8_ BK392.out
       go_wp2_with (first | ((with_reducible refine gate_callee (f := 11) rfl ?_); refine goesL_ (some 38) rfl rfl Try.func11 (by kernel_rfl) rfl #[.agg #[.string a0_0, .int .i64 a0_1, .int .i64 a0_2, .int .i64 a0_3, .int .i64 a0_4, .int .i64 a0_5, .slice A0_6 l0_6.length c0_6, .slice A0_7 l0_7.length c0_7]] rfl (by (try simp only [List.map_toArray, List.map_cons, List.map_nil]); first | done | rfl | (simp only [List.length_drop, List.length_take]; rfl)) ?_; (with_reducible refine (canon_Check.calls a0_0 a0_1 a0_2 a0_3 a0_4 a0_5 _ _ l0_6 _ _ l0_7 t426 _ ?side1 ?side2 ?side3 ?side4 A65.out).mono ?_); (case side1 => repeat (first | exact (Kd.C_below HR0_6.out HB.out) | (with_reducible refine Kd.C_alloc ?_ _) | (with_reducible refine Kd.C_drewN ?_ _) | (with_reducible refine Kd.C_drew ?_))); (case side2 => exact HC0_6.out); (case side3 => repeat (first | exact (Kd.C_below HR0_7.out HB.out) | (with_reducible refine Kd.C_alloc ?_ _) | (with_reducible refine Kd.C_drewN ?_ _) | (with_reducible refine Kd.C_drew ?_))); (case side4 => exact HC0_7.out); rintro e w69 ⟨v427, rfl, ho0, hb⟩; refine ⟨_, rfl, ?_⟩; have n0_ := Am (Kd.R_below (by (with_reducible repeat (first | apply Kd.R_alloc | apply Kd.R_drewN | apply Kd.R_drew)); exact HO_409g.out) hb); have n1_ := Am (Kd.R_below (by (with_reducible repeat (first | apply Kd.R_alloc | apply Kd.R_drewN | apply Kd.R_drew)); exact HO_409h.out) hb); have n2_ := Am (Kd.R_lower ho0 (below_size (by repeat (first | (with_reducible first | exact HB.out | apply below_alloc | apply pw_below_drewN | apply below_drew1 | refine below_set ?_ GE392.out | refine below_set ?_ GE408.out) | exact HB.out)))); have n3_ := Am (blk_below (g := gb392) (o := .cells #[.string a0_0, .int .i64 a0_1, .int .i64 a0_2, .int .i64 a0_3, .int .i64 a0_4, .int .i64 a0_5, .slice A0_6 l0_6.length c0_6, .slice A0_7 l0_7.length c0_7] 25 (0, 0)) (by (with_reducible repeat (first | refine blk_drewN ?_ _ | refine blk_drew ?_ | refine blk_alloc ?_ _)); exact BK392.out) hb); have n4_ := Am (blk_below (g := gb408) (o := .cells #[.string t396, .int .i64 t397, .int .i64 t398, .int .i64 t399, .int .i64 t400, .int .i64 t401, .slice Ao22 t402.length co22, .slice Ao23 t405.length co23] 25 (0, 0)) (by (with_reducible repeat (first | refine blk_drewN ?_ _ | refine blk_drew ?_ | refine blk_alloc ?_ _)); exact BK408.out) hb); have n5_ := Am (below_step (by repeat (first | (with_reducible first | exact HB.out | apply below_alloc | apply pw_below_drewN | apply below_drew1 | refine below_set ?_ GE392.out | refine below_set ?_ GE408.out) | exact HB.out)) hb); clear HO_409g; clear HO_409h; clear BK392; clear BK408; clear HB; have HO_409g := n0_; have HO_409h := n1_; have HO428 := n2_; have BK392 := n3_; have BK408 := n4_; have HB := n5_; clear n0_ n1_ n2_ n3_ n4_ n5_; (try clear hb); (try clear hb2); (try clear hk); (try clear hi); (try clear ho0); obtain ⟨hcz70_0, hcz70_1, hcz70_2, hcz70_3, hcz70_4, hcz70_5, hcz70_6, hcz70_7, hfz70_0, hfz70_1, hfz70_2, hfz70_3, hfz70_4, hfz70_5, hfz70_6, hfz70_7⟩ := blk8_ BK408.out) | ((with_reducible refine gate_callee (f := 11) rfl ?_); refine goesL_ (some 40) rfl rfl Try.func11 (by kernel_rfl) rfl #[.agg #[.string t396, .int .i64 t397, .int .i64 t398, .int .i64 t399, .int .i64 t400, .int .i64 t401, .slice Ao22 t402.length co22, .slice Ao23 t405.length co23]] rfl (by (try simp only [List.map_toArray, List.map_cons, List.map_nil]); first | done | rfl | (simp only [List.length_drop, List.length_take]; rfl)) ?_; (with_reducible refine (canon_Check.calls t396 t397 t398 t399 t400 t401 _ _ t402 _ _ t405 t429 _ ?side1 ?side2 ?side3 ?side4 A66.out).mono ?_); (case side1 => repeat (first | exact (Kd.R_reads' HO_409g.out).2.2 | (with_reducible refine Kd.C_alloc ?_ _) | (with_reducible refine Kd.C_drewN ?_ _) | (with_reducible refine Kd.C_drew ?_))); (case side2 => exact (Kd.R_reads' HO_409g.out).2.1); (case side3 => repeat (first | exact (Kd.R_reads' HO_409h.out).2.2 | (with_reducible refine Kd.C_alloc ?_ _) | (with_reducible refine Kd.C_drewN ?_ _) | (with_reducible refine Kd.C_drew ?_))); (case side4 => exact (Kd.R_reads' HO_409h.out).2.1); rintro e w71 ⟨v430, rfl, ho0, hb⟩; refine ⟨_, rfl, ?_⟩; have n0_ := Am (Kd.R_below (by (with_reducible repeat (first | apply Kd.R_alloc | apply Kd.R_drewN | apply Kd.R_drew)); exact HO_409g.out) hb); have n1_ := Am (Kd.R_below (by (with_reducible repeat (first | apply Kd.R_alloc | apply Kd.R_drewN | apply Kd.R_drew)); exact HO_409h.out) hb); have n2_ := Am (Kd.R_elder' (by (with_reducible repeat (first | apply Kd.R_alloc | apply Kd.R_drewN | apply Kd.R_drew)); exact HO428.out) (Kd.R_base ho0) hb); have n3_ := Am (Kd.R_lower (Kd.R_new' ho0 (Kd.R_lt (by (with_reducible repeat (first | apply Kd.R_alloc | apply Kd.R_drewN | apply Kd.R_drew)); exact HO428.out))) (below_size (by repeat (first | (with_reducible first | exact HB.out | apply below_alloc | apply pw_below_drewN | apply below_drew1 | refine below_set ?_ GE392.out | refine below_set ?_ GE408.out) | exact HB.out)))); have n4_ := Am (blk_below (g := gb392) (o := .cells #[.string a0_0, .int .i64 a0_1, .int .i64 a0_2, .int .i64 a0_3, .int .i64 a0_4, .int .i64 a0_5, .slice A0_6 l0_6.length c0_6, .slice A0_7 l0_7.length c0_7] 25 (0, 0)) (by (with_reducible repeat (first | refine blk_drewN ?_ _ | refine blk_drew ?_ | refine blk_alloc ?_ _)); exact BK392.out) hb); have n5_ := Am (blk_below (g := gb408) (o := .cells #[.string t396, .int .i64 t397, .int .i64 t398, .int .i64 t399, .int .i64 t400, .int .i64 t401, .slice Ao22 t402.length co22, .slice Ao23 t405.length co23] 25 (0, 0)) (by (with_reducible repeat (first | refine blk_drewN ?_ _ | refine blk_drew ?_ | refine blk_alloc ?_ _)); exact BK408.out) hb); have n6_ := Am (below_step (by repeat (first | (with_reducible first | exact HB.out | apply below_alloc | apply pw_below_drewN | apply below_drew1 | refine below_set ?_ GE392.out | refine below_set ?_ GE408.out) | exact HB.out)) hb); clear HO_409g; clear HO_409h; clear HO428; clear BK392; clear BK408; clear HB; have HO_409g := n0_; have HO_409h := n1_; have HO428 := n2_; have HO431 := n3_; have BK392 := n4_; have BK408 := n5_; have HB := n6_; clear n0_ n1_ n2_ n3_ n4_ n5_ n6_; (try clear hb); (try clear hb2); (try clear hk); (try clear hi); (try clear ho0)))
       go_loopg [6, 7] kj15 (fun kq v6 v7 w' => ∃ (x6_3 : Int) (x7_3 : Int), v6 = .int .i64 x6_3 ∧ v7 = .int .i64 x7_3 ∧ Aside0 (entrepotlaw08_CanonNormal.l0 kq t426 t429 x6_3 x7_3 a0_0 a0_1 a0_2 a0_3 a0_4 a0_5 l0_6 l0_7 t396 t397 t398 t399 t400 t401 t402 t405 = some r) ∧ Aside0 (kq ≤ kj15) ∧ Aside0 (Kd.R k43 43 w' w.heap.size (fun k_ => some k_ ≠ (v430 : Value).ownBlock) v427 t426) ∧ Aside0 (Kd.R k43 43 w' w.heap.size (fun k_ => some k_ ≠ (v427 : Value).ownBlock) v430 t429) ∧ Aside0 (Kd.R k46 46 w' w.heap.size (fun _ => True) (.slice Ao22 t402.length co22) t402) ∧ Aside0 (Kd.R (Kd.int .i64) 3 w' w.heap.size (fun _ => True) (.slice Ao23 t405.length co23) t405) ∧ Aside0 (w'.heap[gb392]? = some (.cells #[.string a0_0, .int .i64 a0_1, .int .i64 a0_2, .int .i64 a0_3, .int .i64 a0_4, .int .i64 a0_5, (.slice A0_6 l0_6.length c0_6), (.slice A0_7 l0_7.length c0_7)] 25 (0, 0))) ∧ Aside0 (w'.heap[gb408]? = some (.cells #[.string t396, .int .i64 t397, .int .i64 t398, .int .i64 t399, .int .i64 t400, .int .i64 t401, (.slice Ao22 t402.length co22), (.slice Ao23 t405.length co23)] 25 (0, 0))) ∧ Aside0 (Below w.heap.size w w'))
       case atStart => exact ⟨(0), (0), (by first | rfl | (simp; done) | (simp [*]; done)), (by first | rfl | (simp; done) | (simp [*]; done)), H', ⟨Nat.le_refl _⟩, ⟨by (with_reducible repeat (first | apply Kd.R_alloc | apply Kd.R_drewN | apply Kd.R_drew)); exact Kd.R_mono HO428.out (fun _ hk => hk.2)⟩, ⟨by (with_reducible repeat (first | apply Kd.R_alloc | apply Kd.R_drewN | apply Kd.R_drew)); exact Kd.R_mono HO431.out (fun _ hk => hk.2)⟩, ⟨by (with_reducible repeat (first | apply Kd.R_alloc | apply Kd.R_drewN | apply Kd.R_drew)); exact HO_409g.out⟩, ⟨by (with_reducible repeat (first | apply Kd.R_alloc | apply Kd.R_drewN | apply Kd.R_drew)); exact HO_409h.out⟩, ⟨by (with_reducible repeat (first | refine blk_drewN ?_ _ | refine blk_drew ?_ | refine blk_alloc ?_ _)); exact BK392.out⟩, ⟨by (with_reducible repeat (first | refine blk_drewN ?_ _ | refine blk_drew ?_ | refine blk_alloc ?_ _)); exact BK408.out⟩, ⟨by repeat (first | (with_reducible first | exact HB.out | apply below_alloc | apply pw_below_drewN | apply below_drew1 | refine below_set ?_ GE392.out | refine below_set ?_ GE408.out) | exact HB.out)⟩⟩
       case round =>
        clear H'
        (try clear c64); (try clear hcz68_0); (try clear hcz68_1); (try clear hcz68_2); (try clear hcz68_3); (try clear hcz68_4); (try clear hcz68_5); (try clear hcz68_6); (try clear hcz68_7); (try clear hcz70_0); (try clear hcz70_1); (try clear hcz70_2); (try clear hcz70_3); (try clear hcz70_4); (try clear hcz70_5); (try clear hcz70_6); (try clear hcz70_7); (try clear hfz68_0); (try clear hfz68_1); (try clear hfz68_2); (try clear hfz68_3); (try clear hfz68_4); (try clear hfz68_5); (try clear hfz68_6); (try clear hfz68_7); (try clear hfz70_0); (try clear hfz70_1); (try clear hfz70_2); (try clear hfz70_3); (try clear hfz70_4); (try clear hfz70_5); (try clear hfz70_6); (try clear hfz70_7)
        obtain ⟨x6_3, x7_3, rfl, rfl, HA, HK3, HO_4, HO_5, HO_409g, HO_409h, BK392, BK408, HB⟩ := hrel
        cases gk with
        | zero => exact absurd HA.out (by simp [entrepotlaw08_CanonNormal.l0])
        | succ k3 =>
         have H := HA.out
         clear HA
         simp only [entrepotlaw08_CanonNormal.l0] at H
         by_cases c72 : x7_3 < (t429.length : Int)
         ·rw [if_pos c72] at H
          have c72b0 : decide (x7_3 < (t429.length : Int)) = true := decide_eq_true c72
          clear c72
          have H' := Am H
          clear H
          obtain ⟨Ao73, co73, eo73⟩ := Kd.R_slice HO_5.out
          subst eo73
          go_wp2
          go_loopg [6] k3 (fun kq v6 w' => ∃ (x6_4 : Int), v6 = .int .i64 x6_4 ∧ Aside0 (entrepotlaw08_CanonNormal.l1 kq t426 t429 x6_4 x7_3 a0_0 a0_1 a0_2 a0_3 a0_4 a0_5 l0_6 l0_7 t396 t397 t398 t399 t400 t401 t402 t405 = some r) ∧ Aside0 (kq ≤ k3) ∧ Aside0 (Kd.R k43 43 w' w.heap.size (fun k_ => some k_ ≠ ((.slice Ao73 t429.length co73) : Value).ownBlock) v427 t426) ∧ Aside0 (Kd.R k43 43 w' w.heap.size (fun k_ => some k_ ≠ (v427 : Value).ownBlock) (.slice Ao73 t429.length co73) t429) ∧ Aside0 (Kd.R k46 46 w' w.heap.size (fun _ => True) (.slice Ao22 t402.length co22) t402) ∧ Aside0 (Kd.R (Kd.int .i64) 3 w' w.heap.size (fun _ => True) (.slice Ao23 t405.length co23) t405) ∧ Aside0 (w'.heap[gb392]? = some (.cells #[.string a0_0, .int .i64 a0_1, .int .i64 a0_2, .int .i64 a0_3, .int .i64 a0_4, .int .i64 a0_5, (.slice A0_6 l0_6.length c0_6), (.slice A0_7 l0_7.length c0_7)] 25 (0, 0))) ∧ Aside0 (w'.heap[gb408]? = some (.cells #[.string t396, .int .i64 t397, .int .i64 t398, .int .i64 t399, .int .i64 t400, .int .i64 t401, (.slice Ao22 t402.length co22), (.slice Ao23 t405.length co23)] 25 (0, 0))) ∧ Aside0 (Below w.heap.size w w'))
          case atStart => exact ⟨(x6_3), (by first | rfl | (simp; done) | (simp [*]; done)), H', ⟨Nat.le_refl _⟩, ⟨by (with_reducible repeat (first | apply Kd.R_alloc | apply Kd.R_drewN | apply Kd.R_drew)); exact HO_4.out⟩, ⟨by (with_reducible repeat (first | apply Kd.R_alloc | apply Kd.R_drewN | apply Kd.R_drew)); exact HO_5.out⟩, ⟨by (with_reducible repeat (first | apply Kd.R_alloc | apply Kd.R_drewN | apply Kd.R_drew)); exact HO_409g.out⟩, ⟨by (with_reducible repeat (first | apply Kd.R_alloc | apply Kd.R_drewN | apply Kd.R_drew)); exact HO_409h.out⟩, ⟨by (with_reducible repeat (first | refine blk_drewN ?_ _ | refine blk_drew ?_ | refine blk_alloc ?_ _)); exact BK392.out⟩, ⟨by (with_reducible repeat (first | refine blk_drewN ?_ _ | refine blk_drew ?_ | refine blk_alloc ?_ _)); exact BK408.out⟩, ⟨by repeat (first | (with_reducible first | exact HB.out | apply below_alloc | apply pw_below_drewN | apply below_drew1 | refine below_set ?_ GE392.out | refine below_set ?_ GE408.out) | exact HB.out)⟩⟩
          case round =>
           clear H'
           (try clear c72); (try clear c72b0)
           obtain ⟨x6_4, rfl, HA, HK4, HO_4, HO_5, HO_409g, HO_409h, BK392, BK408, HB⟩ := hrel
           cases gk with
           | zero => exact absurd HA.out (by simp [entrepotlaw08_CanonNormal.l1])
           | succ k4 =>
            have H := HA.out
            clear HA
            simp only [entrepotlaw08_CanonNormal.l1] at H
            by_cases c74 : x6_4 < (t426.length : Int)
            ·rw [if_pos c74] at H
             have c74b0 : decide (x6_4 < (t426.length : Int)) = true := decide_eq_true c74
             clear c74
             by_cases c75 : 0 ≤ x6_4
             ·rw [if_pos c75] at H
              have c75b0 : decide (0 ≤ x6_4) = true := decide_eq_true c75
              clear c75
              by_cases c76 : 0 ≤ x7_3
              ·rw [if_pos c76] at H
               have c76b0 : decide (0 ≤ x7_3) = true := decide_eq_true c76
               clear c76
               by_cases c77 : x7_3 < (t429.length : Int)
               ·rw [if_pos c77] at H
                have c77b0 : decide (x7_3 < (t429.length : Int)) = true := decide_eq_true c77
                clear c77
                by_cases c78 : (!(((rd_T43 t426 x6_4).f0) == ((rd_T43 t429 x7_3).f0)) || (!(((rd_T43 t426 x6_4).f1) == ((rd_T43 t429 x7_3).f1)))) = true
                ·rw [if_pos c78] at H
                 have c78b0 : (!(((rd_T43 t426 x6_4).f0) == ((rd_T43 t429 x7_3).f0)) || (!(((rd_T43 t426 x6_4).f1) == ((rd_T43 t429 x7_3).f1)))) = true := c78
                 clear c78
                 have H' := Am H
                 clear H
                 try go_wp2
                 have n0_ := Am (Kd.R_drew HO_4.out)
                 have n1_ := Am (Kd.R_drew HO_5.out)
                 have n2_ := Am (Kd.R_drew HO_409g.out)
                 have n3_ := Am (Kd.R_drew HO_409h.out)
                 have n4_ := Am (blk_drew BK392.out)
                 have n5_ := Am (blk_drew BK408.out)
                 have n6_ := Am (below_drew1 HB.out)
                 clear HO_4
                 clear HO_5
                 clear HO_409g
                 clear HO_409h
                 clear BK392
                 clear BK408
                 clear HB
                 have HO_4 := n0_
                 have HO_5 := n1_
                 have HO_409g := n2_
                 have HO_409h := n3_
                 have BK392 := n4_
                 have BK408 := n5_
                 have HB := n6_
                 clear n0_ n1_ n2_ n3_ n4_ n5_ n6_
                 obtain ⟨Ao80, co80, eo80⟩ := Kd.R_slice HO_4.out
                 (first | subst eo80 | (injection eo80 with f1_ f2_ f3_; have f4_ := f1_.symm; have f5_ := f3_.symm; clear f1_ f2_ f3_; subst f4_; subst f5_))
                 have p432 : 0 ≤ (x6_4 : Int) := of_decide_eq_true (by first | (with_reducible assumption) | assumption)
                 have q432 : x6_4 < (t426.length : Int) := of_decide_eq_true (by first | (with_reducible assumption) | assumption)
                 obtain ⟨ad432, e432, hx432_0, hx432_1⟩ := at_T43 (Kd.R_reads' HO_4.out).2.2 x6_4 p432 q432
                 cases e432
                 replace p432 := eq_true p432
                 replace q432 := eq_true q432
                 have p433 : 0 ≤ (x7_3 : Int) := of_decide_eq_true (by first | (with_reducible assumption) | assumption)
                 have q433 : x7_3 < (t429.length : Int) := of_decide_eq_true (by first | (with_reducible assumption) | assumption)
                 obtain ⟨ad433, e433, hx433_0, hx433_1⟩ := at_T43 (Kd.R_reads' HO_5.out).2.2 x7_3 p433 q433
                 cases e433
                 replace p433 := eq_true p433
                 replace q433 := eq_true q433
                 refine start_ (n := 15) (S := fun w' => w'.cell? (ad432.add ((x6_4).toNat * 2)) = some (.int .i64 ((rd_T43 t426 x6_4).f0)) ∧ w'.cell? ⟨(ad432.add ((x6_4).toNat * 2)).block, (ad432.add ((x6_4).toNat * 2)).off + 1, none⟩ = some (.int .i64 ((rd_T43 t426 x6_4).f1)) ∧ w'.cell? (ad433.add ((x7_3).toNat * 2)) = some (.int .i64 ((rd_T43 t429 x7_3).f0)) ∧ w'.cell? ⟨(ad433.add ((x7_3).toNat * 2)).block, (ad433.add ((x7_3).toNat * 2)).off + 1, none⟩ = some (.int .i64 ((rd_T43 t429 x7_3).f1))) (ds := []) CN21_ (by kernel_rfl) rfl rfl ⟨hx432_0, hx432_1, hx433_0, hx433_1⟩ (fun hHeld => ?_); refine with_tabW entrepotlaw08_CanonNormal.tab12 entrepotlaw08_CanonNormal.bits12 (fun HT_ HW_ => ?_)
                 generalize wr.drew = w79 at HO_4 HO_5 HO_409g HO_409h BK392 BK408 HB hx432_0 hx432_1 hx433_0 hx433_1 hHeld ⊢
                 refine pure_ (i := 0) (N := some 47) (v := ?_) (a' := ?_) CN22_ rfl rfl (any_of HT_.out (by kernel_rfl)) (fun _ _ _ h => h) (Or.inl ⟨by rfl, ?_⟩) ?_ ?_
                 rotate_left
                 ·intro w'
                  go_simp
                  with_reducible rfl
                 rotate_left
                 ·simp only [Act.put, s1_, s2_, s3_, i64_w, i32_w]
                  rfl
                 refine pure_ (i := 1) (N := some 48) (v := ?_) (a' := ?_) CN23_ rfl rfl (any_of HT_.out (by kernel_rfl)) (fun _ _ _ h => h) (Or.inl ⟨by rfl, ?_⟩) ?_ ?_
                 rotate_left
                 ·intro w'
                  go_simp
                  with_reducible rfl
                 rotate_left
                 ·simp only [Act.put, s1_, s2_, s3_, i64_w, i32_w]
                  rfl
                 refine pure_ (i := 2) (N := some 49) (v := ?_) (a' := ?_) CN24_ rfl rfl (any_of HT_.out (by kernel_rfl)) (fun _ _ _ h => h) (Or.inl ⟨by rfl, ?_⟩) ?_ ?_
                 rotate_left
                 ·intro w'
                  go_simp
                  with_reducible rfl
                 rotate_left
                 ·simp only [Act.put, s1_, s2_, s3_, i64_w, i32_w]
                  rfl
                 refine pure_ (i := 3) (N := some 50) (v := ?_) (a' := ?_) CN25_ rfl rfl (any_of HT_.out (by kernel_rfl)) (fun _ _ _ h => h) (Or.inl ⟨by rfl, ?_⟩) ?_ ?_
                 rotate_left
                 ·intro w'
                  go_simp
                  with_reducible rfl
                 rotate_left
                 ·simp only [Act.put, s1_, s2_, s3_, i64_w, i32_w]
                  rfl
                 refine pure_ (i := 4) (N := some 51) (v := ?_) (a' := ?_) CN26_ rfl rfl (any_of HT_.out (by kernel_rfl)) (fun _ _ _ h => h) (Or.inl ⟨by rfl, ?_⟩) ?_ ?_
                 rotate_left
                 ·intro w'
                  go_simp
                  with_reducible rfl
                 rotate_left
                 ·simp only [Act.put, s1_, s2_, s3_, i64_w, i32_w]
                  rfl
                 refine pure_ (i := 5) (N := some 52) (v := ?_) (a' := ?_) CN27_ rfl rfl (any_of HT_.out (by kernel_rfl)) (fun _ _ _ h => h) (Or.inl ⟨by rfl, ?_⟩) ?_ ?_
                 rotate_left
                 ·intro w'
                  go_simp
                  with_reducible rfl
                 rotate_left
                 ·simp only [Act.put, s1_, s2_, s3_, i64_w, i32_w]
                  rfl
                 refine pure_ (i := 6) (N := some 53) (v := ?_) (a' := ?_) CN28_ rfl rfl (any_of HT_.out (by kernel_rfl)) (fun _ _ _ h => h) (Or.inl ⟨by rfl, ?_⟩) ?_ ?_
                 rotate_left
                 ·intro w'
                  go_simp
                  with_reducible rfl
                 rotate_left
                 ·simp only [Act.put, s1_, s2_, s3_, i64_w, i32_w]
                  rfl
                 refine pure_ (i := 7) (N := some 54) (v := ?_) (a' := ?_) CN29_ rfl rfl (any_of HT_.out (by kernel_rfl)) (fun _ _ _ h => h) (Or.inl ⟨by rfl, ?_⟩) ?_ ?_
                 rotate_left
                 ·intro w'
                  go_simp
                  with_reducible rfl
                 rotate_left
                 ·simp only [Act.put, s1_, s2_, s3_, i64_w, i32_w]
                  rfl
                 refine pure_ (i := 9) (N := some 56) (v := ?_) (a' := ?_) CN30_ rfl rfl (any_of HT_.out (by kernel_rfl)) (fun _ _ _ h => h) (Or.inl ⟨by rfl, ?_⟩) ?_ ?_
                 rotate_left
                 ·intro w'
                  go_simp
                  with_reducible rfl
                 rotate_left
                 ·simp only [Act.put, s1_, s2_, s3_, i64_w, i32_w]
                  rfl
                 refine pure_ (i := 10) (N := some 57) (v := ?_) (a' := ?_) CN31_ rfl rfl (any_of HT_.out (by kernel_rfl)) (fun _ _ _ h => h) (Or.inl ⟨by rfl, ?_⟩) ?_ ?_
                 rotate_left
                 ·intro w'
                  go_simp
                  with_reducible rfl
                 rotate_left
                 ·simp only [Act.put, s1_, s2_, s3_, i64_w, i32_w]
                  rfl
                 refine pure_ (i := 11) (N := some 58) (v := ?_) (a' := ?_) CN32_ rfl rfl (any_of HT_.out (by kernel_rfl)) (fun _ _ _ h => h) (Or.inl ⟨by rfl, ?_⟩) ?_ ?_
                 rotate_left
                 ·intro w'
                  go_simp
                  with_reducible rfl
                 rotate_left
                 ·simp only [Act.put, s1_, s2_, s3_, i64_w, i32_w]
                  rfl
                 refine take_ (i := 8) (N := some 55) (v := ?_) (a' := ?_) CN33_ rfl rfl (take_ofW HT_.out HW_.out (by kernel_rfl)) (fun _ _ _ h => h) (Or.inl ⟨by rfl, ?_⟩) hHeld ?_ ?_
                 rotate_left
                 ·rintro w' ⟨s0, s1, s2, s3⟩
                  go_simp
                  with_reducible rfl
                 rotate_left
                 ·simp only [Act.put, s1_, s2_, s3_, i64_w, i32_w]
                  rfl
                 refine take_ (i := 12) (N := some 59) (v := ?_) (a' := ?_) CN34_ rfl rfl (take_ofW HT_.out HW_.out (by kernel_rfl)) (fun _ _ _ h => h) (Or.inl ⟨by rfl, ?_⟩) hHeld ?_ ?_
                 rotate_left
                 ·rintro w' ⟨s0, s1, s2, s3⟩
                  go_simp
                  with_reducible rfl
                 rotate_left
                 ·simp only [Act.put, s1_, s2_, s3_, i64_w, i32_w]
                  rfl
                 refine pure_ (i := 13) (N := some 60) (v := ?_) (a' := ?_) CN35_ rfl rfl (any_of HT_.out (by kernel_rfl)) (fun _ _ _ h => h) (Or.inl ⟨by rfl, ?_⟩) ?_ ?_
                 rotate_left
                 ·intro w'
                  go_simp
                  with_reducible rfl
                 rotate_left
                 ·simp only [Act.put, s1_, s2_, s3_, i64_w, i32_w]
                  rfl
                 refine pure_ (i := 14) (N := some 61) (v := ?_) (a' := ?_) CN36_ rfl rfl (any_of HT_.out (by kernel_rfl)) (fun _ _ _ h => h) (Or.inl ⟨by rfl, ?_⟩) ?_ ?_
                 rotate_left
                 ·intro w'
                  go_simp
                  with_reducible rfl
                 rotate_left
                 ·simp only [Act.put, s1_, s2_, s3_, i64_w, i32_w]
                  rfl
                 refine done_ (done_of HT_.out (by kernel_rfl)) ?_
                 try go_wp2
                 go_roundg k4
                 case measure => have := HJ1.out; have := HJ15.out; have := HK3.out; have := HK4.out; omega
                 case rel => exact ⟨(wrap64 (x6_4 + 1)), (by first | rfl | (simp; done) | (simp [*]; done)), H', ⟨by have := HJ1.out; have := HJ15.out; have := HK3.out; have := HK4.out; omega⟩, ⟨by (with_reducible repeat (first | apply Kd.R_alloc | apply Kd.R_drewN | apply Kd.R_drew)); exact HO_4.out⟩, ⟨by (with_reducible repeat (first | apply Kd.R_alloc | apply Kd.R_drewN | apply Kd.R_drew)); exact HO_5.out⟩, ⟨by (with_reducible repeat (first | apply Kd.R_alloc | apply Kd.R_drewN | apply Kd.R_drew)); exact HO_409g.out⟩, ⟨by (with_reducible repeat (first | apply Kd.R_alloc | apply Kd.R_drewN | apply Kd.R_drew)); exact HO_409h.out⟩, ⟨by (with_reducible repeat (first | refine blk_drewN ?_ _ | refine blk_drew ?_ | refine blk_alloc ?_ _)); exact BK392.out⟩, ⟨by (with_reducible repeat (first | refine blk_drewN ?_ _ | refine blk_drew ?_ | refine blk_alloc ?_ _)); exact BK408.out⟩, ⟨by repeat (first | (with_reducible first | exact HB.out | apply below_alloc | apply pw_below_drewN | apply below_drew1 | refine below_set ?_ GE392.out | refine below_set ?_ GE408.out) | exact HB.out)⟩⟩
                ·rw [if_neg c78] at H
                 have c78b0 : (!(((rd_T43 t426 x6_4).f0) == ((rd_T43 t429 x7_3).f0)) || (!(((rd_T43 t426 x6_4).f1) == ((rd_T43 t429 x7_3).f1)))) = false := by simpa using c78
                 clear c78
                 by_cases c81 : x6_4 = (t426.length : Int)
                 ·rw [if_pos c81] at H
                  have c81b0 : (x6_4 == (t426.length : Int)) = true := beq_iff_eq.mpr c81
                  have c81b1 : (x6_4 != (t426.length : Int)) = false := bne_eq_false_iff_eq.mpr c81
                  clear c81
                  exact absurd ((Option.some.inj H).trans hr_.out) (by decide)
                 ·rw [if_neg c81] at H
                  have c81b0 : (x6_4 == (t426.length : Int)) = false := beq_eq_false_iff_ne.mpr c81
                  have c81b1 : (x6_4 != (t426.length : Int)) = true := bne_iff_ne.mpr c81
                  have H' := Am H
                  clear H
                  try go_wp2
                  have n0_ := Am (Kd.R_drew HO_4.out)
                  have n1_ := Am (Kd.R_drew HO_5.out)
                  have n2_ := Am (Kd.R_drew HO_409g.out)
                  have n3_ := Am (Kd.R_drew HO_409h.out)
                  have n4_ := Am (blk_drew BK392.out)
                  have n5_ := Am (blk_drew BK408.out)
                  have n6_ := Am (below_drew1 HB.out)
                  clear HO_4
                  clear HO_5
                  clear HO_409g
                  clear HO_409h
                  clear BK392
                  clear BK408
                  clear HB
                  have HO_4 := n0_
                  have HO_5 := n1_
                  have HO_409g := n2_
                  have HO_409h := n3_
                  have BK392 := n4_
                  have BK408 := n5_
                  have HB := n6_
                  clear n0_ n1_ n2_ n3_ n4_ n5_ n6_
                  obtain ⟨Ao83, co83, eo83⟩ := Kd.R_slice HO_4.out
                  (first | subst eo83 | (injection eo83 with f1_ f2_ f3_; have f4_ := f1_.symm; have f5_ := f3_.symm; clear f1_ f2_ f3_; subst f4_; subst f5_))
                  have p432 : 0 ≤ (x6_4 : Int) := of_decide_eq_true (by first | (with_reducible assumption) | assumption)
                  have q432 : x6_4 < (t426.length : Int) := of_decide_eq_true (by first | (with_reducible assumption) | assumption)
                  obtain ⟨ad432, e432, hx432_0, hx432_1⟩ := at_T43 (Kd.R_reads' HO_4.out).2.2 x6_4 p432 q432
                  cases e432
                  replace p432 := eq_true p432
                  replace q432 := eq_true q432
                  have p433 : 0 ≤ (x7_3 : Int) := of_decide_eq_true (by first | (with_reducible assumption) | assumption)
                  have q433 : x7_3 < (t429.length : Int) := of_decide_eq_true (by first | (with_reducible assumption) | assumption)
                  obtain ⟨ad433, e433, hx433_0, hx433_1⟩ := at_T43 (Kd.R_reads' HO_5.out).2.2 x7_3 p433 q433
                  cases e433
                  replace p433 := eq_true p433
                  replace q433 := eq_true q433
                  refine start_ (n := 15) (S := fun w' => w'.cell? (ad432.add ((x6_4).toNat * 2)) = some (.int .i64 ((rd_T43 t426 x6_4).f0)) ∧ w'.cell? ⟨(ad432.add ((x6_4).toNat * 2)).block, (ad432.add ((x6_4).toNat * 2)).off + 1, none⟩ = some (.int .i64 ((rd_T43 t426 x6_4).f1)) ∧ w'.cell? (ad433.add ((x7_3).toNat * 2)) = some (.int .i64 ((rd_T43 t429 x7_3).f0)) ∧ w'.cell? ⟨(ad433.add ((x7_3).toNat * 2)).block, (ad433.add ((x7_3).toNat * 2)).off + 1, none⟩ = some (.int .i64 ((rd_T43 t429 x7_3).f1))) (ds := []) CN21_ (by kernel_rfl) rfl rfl ⟨hx432_0, hx432_1, hx433_0, hx433_1⟩ (fun hHeld => ?_); refine with_tabW entrepotlaw08_CanonNormal.tab12 entrepotlaw08_CanonNormal.bits12 (fun HT_ HW_ => ?_)
                  generalize wr.drew = w82 at HO_4 HO_5 HO_409g HO_409h BK392 BK408 HB hx432_0 hx432_1 hx433_0 hx433_1 hHeld ⊢
                  refine pure_ (i := 0) (N := some 47) (v := ?_) (a' := ?_) CN22_ rfl rfl (any_of HT_.out (by kernel_rfl)) (fun _ _ _ h => h) (Or.inl ⟨by rfl, ?_⟩) ?_ ?_
                  rotate_left
                  ·intro w'
                   go_simp
                   with_reducible rfl
                  rotate_left
                  ·simp only [Act.put, s1_, s2_, s3_, i64_w, i32_w]
                   rfl
                  refine pure_ (i := 1) (N := some 48) (v := ?_) (a' := ?_) CN23_ rfl rfl (any_of HT_.out (by kernel_rfl)) (fun _ _ _ h => h) (Or.inl ⟨by rfl, ?_⟩) ?_ ?_
                  rotate_left
                  ·intro w'
                   go_simp
                   with_reducible rfl
                  rotate_left
                  ·simp only [Act.put, s1_, s2_, s3_, i64_w, i32_w]
                   rfl
                  refine pure_ (i := 2) (N := some 49) (v := ?_) (a' := ?_) CN24_ rfl rfl (any_of HT_.out (by kernel_rfl)) (fun _ _ _ h => h) (Or.inl ⟨by rfl, ?_⟩) ?_ ?_
                  rotate_left
                  ·intro w'
                   go_simp
                   with_reducible rfl
                  rotate_left
                  ·simp only [Act.put, s1_, s2_, s3_, i64_w, i32_w]
                   rfl
                  refine pure_ (i := 3) (N := some 50) (v := ?_) (a' := ?_) CN25_ rfl rfl (any_of HT_.out (by kernel_rfl)) (fun _ _ _ h => h) (Or.inl ⟨by rfl, ?_⟩) ?_ ?_
                  rotate_left
                  ·intro w'
                   go_simp
                   with_reducible rfl
                  rotate_left
                  ·simp only [Act.put, s1_, s2_, s3_, i64_w, i32_w]
                   rfl
                  refine pure_ (i := 4) (N := some 51) (v := ?_) (a' := ?_) CN26_ rfl rfl (any_of HT_.out (by kernel_rfl)) (fun _ _ _ h => h) (Or.inl ⟨by rfl, ?_⟩) ?_ ?_
                  rotate_left
                  ·intro w'
                   go_simp
                   with_reducible rfl
                  rotate_left
                  ·simp only [Act.put, s1_, s2_, s3_, i64_w, i32_w]
                   rfl
                  refine pure_ (i := 5) (N := some 52) (v := ?_) (a' := ?_) CN27_ rfl rfl (any_of HT_.out (by kernel_rfl)) (fun _ _ _ h => h) (Or.inl ⟨by rfl, ?_⟩) ?_ ?_
                  rotate_left
                  ·intro w'
                   go_simp
                   with_reducible rfl
                  rotate_left
                  ·simp only [Act.put, s1_, s2_, s3_, i64_w, i32_w]
                   rfl
                  refine pure_ (i := 6) (N := some 53) (v := ?_) (a' := ?_) CN28_ rfl rfl (any_of HT_.out (by kernel_rfl)) (fun _ _ _ h => h) (Or.inl ⟨by rfl, ?_⟩) ?_ ?_
                  rotate_left
                  ·intro w'
                   go_simp
                   with_reducible rfl
                  rotate_left
                  ·simp only [Act.put, s1_, s2_, s3_, i64_w, i32_w]
                   rfl
                  refine pure_ (i := 7) (N := some 54) (v := ?_) (a' := ?_) CN29_ rfl rfl (any_of HT_.out (by kernel_rfl)) (fun _ _ _ h => h) (Or.inl ⟨by rfl, ?_⟩) ?_ ?_
                  rotate_left
                  ·intro w'
                   go_simp
                   with_reducible rfl
                  rotate_left
                  ·simp only [Act.put, s1_, s2_, s3_, i64_w, i32_w]
                   rfl
                  refine pure_ (i := 9) (N := some 56) (v := ?_) (a' := ?_) CN30_ rfl rfl (any_of HT_.out (by kernel_rfl)) (fun _ _ _ h => h) (Or.inl ⟨by rfl, ?_⟩) ?_ ?_
                  rotate_left
                  ·intro w'
                   go_simp
                   with_reducible rfl
                  rotate_left
                  ·simp only [Act.put, s1_, s2_, s3_, i64_w, i32_w]
                   rfl
                  refine pure_ (i := 10) (N := some 57) (v := ?_) (a' := ?_) CN31_ rfl rfl (any_of HT_.out (by kernel_rfl)) (fun _ _ _ h => h) (Or.inl ⟨by rfl, ?_⟩) ?_ ?_
                  rotate_left
                  ·intro w'
                   go_simp
                   with_reducible rfl
                  rotate_left
                  ·simp only [Act.put, s1_, s2_, s3_, i64_w, i32_w]
                   rfl
                  refine pure_ (i := 11) (N := some 58) (v := ?_) (a' := ?_) CN32_ rfl rfl (any_of HT_.out (by kernel_rfl)) (fun _ _ _ h => h) (Or.inl ⟨by rfl, ?_⟩) ?_ ?_
                  rotate_left
                  ·intro w'
                   go_simp
                   with_reducible rfl
                  rotate_left
                  ·simp only [Act.put, s1_, s2_, s3_, i64_w, i32_w]
                   rfl
                  refine take_ (i := 8) (N := some 55) (v := ?_) (a' := ?_) CN33_ rfl rfl (take_ofW HT_.out HW_.out (by kernel_rfl)) (fun _ _ _ h => h) (Or.inl ⟨by rfl, ?_⟩) hHeld ?_ ?_
                  rotate_left
                  ·rintro w' ⟨s0, s1, s2, s3⟩
                   go_simp
                   with_reducible rfl
                  rotate_left
                  ·simp only [Act.put, s1_, s2_, s3_, i64_w, i32_w]
                   rfl
                  refine take_ (i := 12) (N := some 59) (v := ?_) (a' := ?_) CN34_ rfl rfl (take_ofW HT_.out HW_.out (by kernel_rfl)) (fun _ _ _ h => h) (Or.inl ⟨by rfl, ?_⟩) hHeld ?_ ?_
                  rotate_left
                  ·rintro w' ⟨s0, s1, s2, s3⟩
                   go_simp
                   with_reducible rfl
                  rotate_left
                  ·simp only [Act.put, s1_, s2_, s3_, i64_w, i32_w]
                   rfl
                  refine pure_ (i := 13) (N := some 60) (v := ?_) (a' := ?_) CN35_ rfl rfl (any_of HT_.out (by kernel_rfl)) (fun _ _ _ h => h) (Or.inl ⟨by rfl, ?_⟩) ?_ ?_
                  rotate_left
                  ·intro w'
                   go_simp
                   with_reducible rfl
                  rotate_left
                  ·simp only [Act.put, s1_, s2_, s3_, i64_w, i32_w]
                   rfl
                  refine pure_ (i := 14) (N := some 61) (v := ?_) (a' := ?_) CN36_ rfl rfl (any_of HT_.out (by kernel_rfl)) (fun _ _ _ h => h) (Or.inl ⟨by rfl, ?_⟩) ?_ ?_
                  rotate_left
                  ·intro w'
                   go_simp
                   with_reducible rfl
                  rotate_left
                  ·simp only [Act.put, s1_, s2_, s3_, i64_w, i32_w]
                   rfl
                  refine done_ (done_of HT_.out (by kernel_rfl)) ?_
                  try go_wp2
                  go_roundg k4
                  case measure => have := HJ1.out; have := HJ15.out; have := HK3.out; have := HK4.out; omega
                  case rel => exact ⟨(x6_4), (wrap64 (x7_3 + 1)), (by first | rfl | (simp; done) | (simp [*]; done)), (by first | rfl | (simp; done) | (simp [*]; done)), H', ⟨by have := HJ1.out; have := HJ15.out; have := HK3.out; have := HK4.out; omega⟩, ⟨by (with_reducible repeat (first | apply Kd.R_alloc | apply Kd.R_drewN | apply Kd.R_drew)); exact HO_4.out⟩, ⟨by (with_reducible repeat (first | apply Kd.R_alloc | apply Kd.R_drewN | apply Kd.R_drew)); exact HO_5.out⟩, ⟨by (with_reducible repeat (first | apply Kd.R_alloc | apply Kd.R_drewN | apply Kd.R_drew)); exact HO_409g.out⟩, ⟨by (with_reducible repeat (first | apply Kd.R_alloc | apply Kd.R_drewN | apply Kd.R_drew)); exact HO_409h.out⟩, ⟨by (with_reducible repeat (first | refine blk_drewN ?_ _ | refine blk_drew ?_ | refine blk_alloc ?_ _)); exact BK392.out⟩, ⟨by (with_reducible repeat (first | refine blk_drewN ?_ _ | refine blk_drew ?_ | refine blk_alloc ?_ _)); exact BK408.out⟩, ⟨by repeat (first | (with_reducible first | exact HB.out | apply below_alloc | apply pw_below_drewN | apply below_drew1 | refine below_set ?_ GE392.out | refine below_set ?_ GE408.out) | exact HB.out)⟩⟩
               ·rw [if_neg c77] at H
                exact absurd H (by simp)
              ·rw [if_neg c76] at H
               exact absurd H (by simp)
             ·rw [if_neg c75] at H
              exact absurd H (by simp)
            ·rw [if_neg c74] at H
             have c74b0 : decide (x6_4 < (t426.length : Int)) = false := decide_eq_false c74
             clear c74
             by_cases c84 : x6_4 = (t426.length : Int)
             ·rw [if_pos c84] at H
              have c84b0 : (x6_4 == (t426.length : Int)) = true := beq_iff_eq.mpr c84
              have c84b1 : (x6_4 != (t426.length : Int)) = false := bne_eq_false_iff_eq.mpr c84
              clear c84
              exact absurd ((Option.some.inj H).trans hr_.out) (by decide)
             ·rw [if_neg c84] at H
              have c84b0 : (x6_4 == (t426.length : Int)) = false := beq_eq_false_iff_ne.mpr c84
              have c84b1 : (x6_4 != (t426.length : Int)) = true := bne_iff_ne.mpr c84
              have H' := Am H
              clear H
              try go_wp2
              have n0_ := Am (Kd.R_drew HO_4.out)
              have n1_ := Am (Kd.R_drew HO_5.out)
              have n2_ := Am (Kd.R_drew HO_409g.out)
              have n3_ := Am (Kd.R_drew HO_409h.out)
              have n4_ := Am (blk_drew BK392.out)
              have n5_ := Am (blk_drew BK408.out)
              have n6_ := Am (below_drew1 HB.out)
              clear HO_4
              clear HO_5
              clear HO_409g
              clear HO_409h
              clear BK392
              clear BK408
              clear HB
              have HO_4 := n0_
              have HO_5 := n1_
              have HO_409g := n2_
              have HO_409h := n3_
              have BK392 := n4_
              have BK408 := n5_
              have HB := n6_
              clear n0_ n1_ n2_ n3_ n4_ n5_ n6_
              obtain ⟨Ao86, co86, eo86⟩ := Kd.R_slice HO_4.out
              (first | subst eo86 | (injection eo86 with f1_ f2_ f3_; have f4_ := f1_.symm; have f5_ := f3_.symm; clear f1_ f2_ f3_; subst f4_; subst f5_))
              refine start_ (n := 15) (S := fun w' => True) (ds := []) CN21_ (by kernel_rfl) rfl rfl trivial (fun hHeld => ?_); refine with_tabW entrepotlaw08_CanonNormal.tab12 entrepotlaw08_CanonNormal.bits12 (fun HT_ HW_ => ?_)
              generalize wr.drew = w85 at HO_4 HO_5 HO_409g HO_409h BK392 BK408 HB hHeld ⊢
              refine pure_ (i := 0) (N := some 47) (v := ?_) (a' := ?_) CN22_ rfl rfl (any_of HT_.out (by kernel_rfl)) (fun _ _ _ h => h) (Or.inl ⟨by rfl, ?_⟩) ?_ ?_
              rotate_left
              ·intro w'
               go_simp
               with_reducible rfl
              rotate_left
              ·simp only [Act.put, s1_, s2_, s3_, i64_w, i32_w]
               rfl
              refine pure_ (i := 1) (N := some 48) (v := ?_) (a' := ?_) CN23_ rfl rfl (any_of HT_.out (by kernel_rfl)) (fun _ _ _ h => h) (Or.inl ⟨by rfl, ?_⟩) ?_ ?_
              rotate_left
              ·intro w'
               go_simp
               with_reducible rfl
              rotate_left
              ·simp only [Act.put, s1_, s2_, s3_, i64_w, i32_w]
               rfl
              refine pure_ (i := 2) (N := some 49) (v := ?_) (a' := ?_) CN24_ rfl rfl (any_of HT_.out (by kernel_rfl)) (fun _ _ _ h => h) (Or.inl ⟨by rfl, ?_⟩) ?_ ?_
              rotate_left
              ·intro w'
               go_simp
               with_reducible rfl
              rotate_left
              ·simp only [Act.put, s1_, s2_, s3_, i64_w, i32_w]
               rfl
              refine pure_ (i := 3) (N := some 50) (v := ?_) (a' := ?_) CN25_ rfl rfl (any_of HT_.out (by kernel_rfl)) (fun _ _ _ h => h) (Or.inl ⟨by rfl, ?_⟩) ?_ ?_
              rotate_left
              ·intro w'
               go_simp
               with_reducible rfl
              rotate_left
              ·simp only [Act.put, s1_, s2_, s3_, i64_w, i32_w]
               rfl
              refine pure_ (i := 4) (N := some 51) (v := ?_) (a' := ?_) CN26_ rfl rfl (any_of HT_.out (by kernel_rfl)) (fun _ _ _ h => h) (Or.inl ⟨by rfl, ?_⟩) ?_ ?_
              rotate_left
              ·intro w'
               go_simp
               with_reducible rfl
              rotate_left
              ·simp only [Act.put, s1_, s2_, s3_, i64_w, i32_w]
               rfl
              refine pure_ (i := 5) (N := some 52) (v := undef) (a' := ?_) CN27_ rfl rfl (any_of HT_.out (by kernel_rfl)) (fun _ _ _ h => h) (Or.inr ⟨by rfl, rfl⟩) ?_ ?_
              rotate_left
              ·simp only [Act.put, s1_, s2_, s3_, i64_w, i32_w]
               rfl
              refine pure_ (i := 6) (N := some 53) (v := undef) (a' := ?_) CN28_ rfl rfl (any_of HT_.out (by kernel_rfl)) (fun _ _ _ h => h) (Or.inr ⟨by rfl, rfl⟩) ?_ ?_
              rotate_left
              ·simp only [Act.put, s1_, s2_, s3_, i64_w, i32_w]
               rfl
              refine pure_ (i := 7) (N := some 54) (v := undef) (a' := ?_) CN29_ rfl rfl (any_of HT_.out (by kernel_rfl)) (fun _ _ _ h => h) (Or.inr ⟨by rfl, rfl⟩) ?_ ?_
              rotate_left
              ·simp only [Act.put, s1_, s2_, s3_, i64_w, i32_w]
               rfl
              refine pure_ (i := 8) (N := some 55) (v := undef) (a' := ?_) #[true, true, true, true, true, true, true, true, true, false, false, false, false, false, false] rfl rfl (any_of HT_.out (by kernel_rfl)) (fun _ _ _ h => h) (Or.inr ⟨by rfl, rfl⟩) ?_ ?_
              rotate_left
              ·simp only [Act.put, s1_, s2_, s3_, i64_w, i32_w]
               rfl
              refine pure_ (i := 9) (N := some 56) (v := undef) (a' := ?_) #[true, true, true, true, true, true, true, true, true, true, false, false, false, false, false] rfl rfl (any_of HT_.out (by kernel_rfl)) (fun _ _ _ h => h) (Or.inr ⟨by rfl, rfl⟩) ?_ ?_
              rotate_left
              ·simp only [Act.put, s1_, s2_, s3_, i64_w, i32_w]
               rfl
              refine pure_ (i := 10) (N := some 57) (v := undef) (a' := ?_) #[true, true, true, true, true, true, true, true, true, true, true, false, false, false, false] rfl rfl (any_of HT_.out (by kernel_rfl)) (fun _ _ _ h => h) (Or.inr ⟨by rfl, rfl⟩) ?_ ?_
              rotate_left
              ·simp only [Act.put, s1_, s2_, s3_, i64_w, i32_w]
               rfl
              refine pure_ (i := 11) (N := some 58) (v := undef) (a' := ?_) CN33_ rfl rfl (any_of HT_.out (by kernel_rfl)) (fun _ _ _ h => h) (Or.inr ⟨by rfl, rfl⟩) ?_ ?_
              rotate_left
              ·simp only [Act.put, s1_, s2_, s3_, i64_w, i32_w]
               rfl
              refine pure_ (i := 12) (N := some 59) (v := undef) (a' := ?_) CN34_ rfl rfl (any_of HT_.out (by kernel_rfl)) (fun _ _ _ h => h) (Or.inr ⟨by rfl, rfl⟩) ?_ ?_
              rotate_left
              ·simp only [Act.put, s1_, s2_, s3_, i64_w, i32_w]
               rfl
              refine pure_ (i := 13) (N := some 60) (v := undef) (a' := ?_) CN35_ rfl rfl (any_of HT_.out (by kernel_rfl)) (fun _ _ _ h => h) (Or.inr ⟨by rfl, rfl⟩) ?_ ?_
              rotate_left
              ·simp only [Act.put, s1_, s2_, s3_, i64_w, i32_w]
               rfl
              refine pure_ (i := 14) (N := some 61) (v := ?_) (a' := ?_) CN36_ rfl rfl (any_of HT_.out (by kernel_rfl)) (fun _ _ _ h => h) (Or.inl ⟨by rfl, ?_⟩) ?_ ?_
              rotate_left
              ·intro w'
               go_simp
               with_reducible rfl
              rotate_left
              ·simp only [Act.put, s1_, s2_, s3_, i64_w, i32_w]
               rfl
              refine done_ (done_of HT_.out (by kernel_rfl)) ?_
              try go_wp2
              go_roundg k4
              case measure => have := HJ1.out; have := HJ15.out; have := HK3.out; have := HK4.out; omega
              case rel => exact ⟨(x6_4), (wrap64 (x7_3 + 1)), (by first | rfl | (simp; done) | (simp [*]; done)), (by first | rfl | (simp; done) | (simp [*]; done)), H', ⟨by have := HJ1.out; have := HJ15.out; have := HK3.out; have := HK4.out; omega⟩, ⟨by (with_reducible repeat (first | apply Kd.R_alloc | apply Kd.R_drewN | apply Kd.R_drew)); exact HO_4.out⟩, ⟨by (with_reducible repeat (first | apply Kd.R_alloc | apply Kd.R_drewN | apply Kd.R_drew)); exact HO_5.out⟩, ⟨by (with_reducible repeat (first | apply Kd.R_alloc | apply Kd.R_drewN | apply Kd.R_drew)); exact HO_409g.out⟩, ⟨by (with_reducible repeat (first | apply Kd.R_alloc | apply Kd.R_drewN | apply Kd.R_drew)); exact HO_409h.out⟩, ⟨by (with_reducible repeat (first | refine blk_drewN ?_ _ | refine blk_drew ?_ | refine blk_alloc ?_ _)); exact BK392.out⟩, ⟨by (with_reducible repeat (first | refine blk_drewN ?_ _ | refine blk_drew ?_ | refine blk_alloc ?_ _)); exact BK408.out⟩, ⟨by repeat (first | (with_reducible first | exact HB.out | apply below_alloc | apply pw_below_drewN | apply below_drew1 | refine below_set ?_ GE392.out | refine below_set ?_ GE408.out) | exact HB.out)⟩⟩
         ·rw [if_neg c72] at H
          have c72b0 : decide (x7_3 < (t429.length : Int)) = false := decide_eq_false c72
          clear c72
          by_cases c87 : t399 ≤ a0_3
          ·rw [if_pos c87] at H
           have c87b0 : decide (t399 ≤ a0_3) = true := decide_eq_true c87
           clear c87
           obtain rfl := Option.some.inj H
           obtain ⟨Ao88, co88, eo88⟩ := Kd.R_slice HO_5.out
           subst eo88
           have hnb89 := NB408_392.out
           have hnc89 := NB392_408.out
           obtain ⟨hcz90_0, hcz90_1, hcz90_2, hcz90_3, hcz90_4, hcz90_5, hcz90_6, hcz90_7, hfz90_0, hfz90_1, hfz90_2, hfz90_3, hfz90_4, hfz90_5, hfz90_6, hfz90_7⟩ := blk8_ BK408.out
           obtain ⟨hcz91_0, hcz91_1, hcz91_2, hcz91_3, hcz91_4, hcz91_5, hcz91_6, hcz91_7, hfz91_0, hfz91_1, hfz91_2, hfz91_3, hfz91_4, hfz91_5, hfz91_6, hfz91_7⟩ := blk8_ BK392.out
           go_wp2
           go_ret
           exact ⟨by first | rfl | (simp [errW_none, errW_some] <;> rfl) | (simp [*, errW_none, errW_some] <;> rfl), by repeat (first | (with_reducible first | exact HB.out | apply below_alloc | apply pw_below_drewN | apply below_drew1 | refine below_set ?_ GE392.out | refine below_set ?_ GE408.out) | exact HB.out)⟩
          ·rw [if_neg c87] at H
           have c87b0 : decide (t399 ≤ a0_3) = false := decide_eq_false c87
           clear c87
           exact absurd ((Option.some.inj H).trans hr_.out) (by decide)

end Go.Proofs.Ytfnnngoandpgkaa.P
