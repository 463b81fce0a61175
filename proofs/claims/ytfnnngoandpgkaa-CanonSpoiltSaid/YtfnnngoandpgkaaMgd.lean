/- Texts of this session in one: Lean functions for Go functions, and the proofs that the machine comes to their answers -/
import Derived.Test.YtfnnngoandpgkaaPx0
import Derived.Test.YtfnnngoandpgkaaMga
namespace Go.Proofs.Ytfnnngoandpgkaa.P
open Go.RowKit Go.Proofs.YtfnnngoandpgkaaW.PrintWords Go.Proofs.YtfnnngoandpgkaaW.PrintLast Go.Proofs.YtfnnngoandpgkaaW.PrintMore
attribute [local go_sem] max2_int min2_int max_two min_two max_three min_three max_four min_four   -- for this text's walks alone
set_option linter.unusedVariables false
set_option linter.unusedSimpArgs false

/-! ### entrepotref08_Check: function 14 -/
mutual
def entrepotref08_Check.j0 : Nat → List (S58) → ByteArray → Int → Int → Int → Int → Int → List (S60) → List Int → Option ((List (S58)))
 | 0, _, _, _, _, _, _, _, _, _ => none
 | k + 1, x3, x191000, x191001, x191002, x191003, x191004, x191005, x191006, x191007 => if x191001 < 1 then (entrepotref08_Check.j1 k x3 true x191000 x191001 x191002 x191003 x191004 x191005 x191006 x191007) else (entrepotref08_Check.j1 k x3 (decide (x191001 > 4)) x191000 x191001 x191002 x191003 x191004 x191005 x191006 x191007)
def entrepotref08_Check.j1 : Nat → List (S58) → Bool → ByteArray → Int → Int → Int → Int → Int → List (S60) → List Int → Option ((List (S58)))
 | 0, _, _, _, _, _, _, _, _, _, _ => none
 | k + 1, x3, x22, x191000, x191001, x191002, x191003, x191004, x191005, x191006, x191007 => if x22 = true then (if x3.length < 8796093022208 then (entrepotref08_Check.j2 k (x3 ++ [(⟨2, 0⟩ : S58)]) x191000 x191001 x191002 x191003 x191004 x191005 x191006 x191007) else (none)) else (entrepotref08_Check.j2 k x3 x191000 x191001 x191002 x191003 x191004 x191005 x191006 x191007)
def entrepotref08_Check.j2 : Nat → List (S58) → ByteArray → Int → Int → Int → Int → Int → List (S60) → List Int → Option ((List (S58)))
 | 0, _, _, _, _, _, _, _, _, _ => none
 | k + 1, x3, x191000, x191001, x191002, x191003, x191004, x191005, x191006, x191007 => (entrepotref06_Known.f x191002).bind fun t201 => (if t201 = true then (entrepotref08_Check.j3 k x3 x191000 x191001 x191002 x191003 x191004 x191005 x191006 x191007) else (if x3.length < 8796093022208 then (entrepotref08_Check.j3 k (x3 ++ [(⟨3, 0⟩ : S58)]) x191000 x191001 x191002 x191003 x191004 x191005 x191006 x191007) else (none)))
def entrepotref08_Check.j3 : Nat → List (S58) → ByteArray → Int → Int → Int → Int → Int → List (S60) → List Int → Option ((List (S58)))
 | 0, _, _, _, _, _, _, _, _, _ => none
 | k + 1, x3, x191000, x191001, x191002, x191003, x191004, x191005, x191006, x191007 => if x191003 < 0 then (entrepotref08_Check.j4 k x3 true x191000 x191001 x191002 x191003 x191004 x191005 x191006 x191007) else (if x191003 > 6 then (entrepotref08_Check.j4 k x3 true x191000 x191001 x191002 x191003 x191004 x191005 x191006 x191007) else (if x191002 = 0 then (entrepotref08_Check.j4 k x3 (x191003 != 0) x191000 x191001 x191002 x191003 x191004 x191005 x191006 x191007) else (entrepotref08_Check.j4 k x3 false x191000 x191001 x191002 x191003 x191004 x191005 x191006 x191007)))
def entrepotref08_Check.j4 : Nat → List (S58) → Bool → ByteArray → Int → Int → Int → Int → Int → List (S60) → List Int → Option ((List (S58)))
 | 0, _, _, _, _, _, _, _, _, _, _ => none
 | k + 1, x3, x52, x191000, x191001, x191002, x191003, x191004, x191005, x191006, x191007 => if x52 = true then (if x3.length < 8796093022208 then (entrepotref08_Check.j5 k (x3 ++ [(⟨4, 0⟩ : S58)]) x191000 x191001 x191002 x191003 x191004 x191005 x191006 x191007) else (none)) else (entrepotref08_Check.j5 k x3 x191000 x191001 x191002 x191003 x191004 x191005 x191006 x191007)
def entrepotref08_Check.j5 : Nat → List (S58) → ByteArray → Int → Int → Int → Int → Int → List (S60) → List Int → Option ((List (S58)))
 | 0, _, _, _, _, _, _, _, _, _ => none
 | k + 1, x3, x191000, x191001, x191002, x191003, x191004, x191005, x191006, x191007 => if x191001 = 1 then (if x191004 = 0 then (entrepotref08_Check.j6 k x3 false x191000 x191001 x191002 x191003 x191004 x191005 x191006 x191007) else (entrepotref08_Check.j6 k x3 true x191000 x191001 x191002 x191003 x191004 x191005 x191006 x191007)) else (if x191004 < 1 then (entrepotref08_Check.j6 k x3 true x191000 x191001 x191002 x191003 x191004 x191005 x191006 x191007) else (entrepotref08_Check.j6 k x3 (decide (x191004 > 100000000)) x191000 x191001 x191002 x191003 x191004 x191005 x191006 x191007))
def entrepotref08_Check.j6 : Nat → List (S58) → Bool → ByteArray → Int → Int → Int → Int → Int → List (S60) → List Int → Option ((List (S58)))
 | 0, _, _, _, _, _, _, _, _, _, _ => none
 | k + 1, x3, x79, x191000, x191001, x191002, x191003, x191004, x191005, x191006, x191007 => if x79 = true then (if x3.length < 8796093022208 then (entrepotref08_Check.j7 k (x3 ++ [(⟨5, 0⟩ : S58)]) x191000 x191001 x191002 x191003 x191004 x191005 x191006 x191007) else (none)) else (entrepotref08_Check.j7 k x3 x191000 x191001 x191002 x191003 x191004 x191005 x191006 x191007)
def entrepotref08_Check.j7 : Nat → List (S58) → ByteArray → Int → Int → Int → Int → Int → List (S60) → List Int → Option ((List (S58)))
 | 0, _, _, _, _, _, _, _, _, _ => none
 | k + 1, x3, x191000, x191001, x191002, x191003, x191004, x191005, x191006, x191007 => if x191001 = 1 then (if x191005 = 0 then (entrepotref08_Check.j8 k x3 false x191000 x191001 x191002 x191003 x191004 x191005 x191006 x191007) else (entrepotref08_Check.j8 k x3 true x191000 x191001 x191002 x191003 x191004 x191005 x191006 x191007)) else (if x191005 < 0 then (entrepotref08_Check.j8 k x3 true x191000 x191001 x191002 x191003 x191004 x191005 x191006 x191007) else (entrepotref08_Check.j8 k x3 (decide (x191005 > 400)) x191000 x191001 x191002 x191003 x191004 x191005 x191006 x191007))
def entrepotref08_Check.j8 : Nat → List (S58) → Bool → ByteArray → Int → Int → Int → Int → Int → List (S60) → List Int → Option ((List (S58)))
 | 0, _, _, _, _, _, _, _, _, _, _ => none
 | k + 1, x3, x106, x191000, x191001, x191002, x191003, x191004, x191005, x191006, x191007 => if x106 = true then (if x3.length < 8796093022208 then (entrepotref08_Check.j9 k (x3 ++ [(⟨6, 0⟩ : S58)]) x191000 x191001 x191002 x191003 x191004 x191005 x191006 x191007) else (none)) else (entrepotref08_Check.j9 k x3 x191000 x191001 x191002 x191003 x191004 x191005 x191006 x191007)
def entrepotref08_Check.j9 : Nat → List (S58) → ByteArray → Int → Int → Int → Int → Int → List (S60) → List Int → Option ((List (S58)))
 | 0, _, _, _, _, _, _, _, _, _ => none
 | k + 1, x3, x191000, x191001, x191002, x191003, x191004, x191005, x191006, x191007 => if (x191006.length : Int) < 1 then (entrepotref08_Check.j10 k x3 (x191006.length : Int) true x191000 x191001 x191002 x191003 x191004 x191005 x191006 x191007) else (entrepotref08_Check.j10 k x3 (x191006.length : Int) (decide ((x191006.length : Int) > 400)) x191000 x191001 x191002 x191003 x191004 x191005 x191006 x191007)
def entrepotref08_Check.j10 : Nat → List (S58) → Int → Bool → ByteArray → Int → Int → Int → Int → Int → List (S60) → List Int → Option ((List (S58)))
 | 0, _, _, _, _, _, _, _, _, _, _, _ => none
 | k + 1, x3, x4, x119, x191000, x191001, x191002, x191003, x191004, x191005, x191006, x191007 => if x119 = true then (if x3.length < 8796093022208 then (some (x3 ++ [(⟨7, 0⟩ : S58)])) else (none)) else ((entrepotref08_matrix.f k x191000 x191001 x191002 x191003 x191004 x191005 x191006 x191007).bind fun t217 => (if t217 = true then (entrepotref08_Check.j11 k x3 x4 x191000 x191001 x191002 x191003 x191004 x191005 x191006 x191007) else (if x3.length < 8796093022208 then (entrepotref08_Check.j11 k (x3 ++ [(⟨8, 0⟩ : S58)]) x4 x191000 x191001 x191002 x191003 x191004 x191005 x191006 x191007) else (none))))
def entrepotref08_Check.j11 : Nat → List (S58) → Int → ByteArray → Int → Int → Int → Int → Int → List (S60) → List Int → Option ((List (S58)))
 | 0, _, _, _, _, _, _, _, _, _, _ => none
 | k + 1, x3, x4, x191000, x191001, x191002, x191003, x191004, x191005, x191006, x191007 => entrepotref08_Check.l0 k x3 x4 0 x191000 x191001 x191002 x191003 x191004 x191005 x191006 x191007
def entrepotref08_Check.l0 : Nat → List (S58) → Int → Int → ByteArray → Int → Int → Int → Int → Int → List (S60) → List Int → Option ((List (S58)))
 | 0, _, _, _, _, _, _, _, _, _, _, _ => none
 | k + 1, x3, x4, x5, x191000, x191001, x191002, x191003, x191004, x191005, x191006, x191007 => if x5 < x4 then ((entrepotref08_coord.f x191000 x191001 x191002 x191003 x191004 x191005 x191006 x191007 x5).bind fun t221 => (if t221 = true then (entrepotref08_Check.j13 k x3 x4 x5 x191000 x191001 x191002 x191003 x191004 x191005 x191006 x191007) else (if x3.length < 8796093022208 then (entrepotref08_Check.j13 k (x3 ++ [(⟨9, x5⟩ : S58)]) x4 x5 x191000 x191001 x191002 x191003 x191004 x191005 x191006 x191007) else (none)))) else (some x3)
def entrepotref08_Check.j13 : Nat → List (S58) → Int → Int → ByteArray → Int → Int → Int → Int → Int → List (S60) → List Int → Option ((List (S58)))
 | 0, _, _, _, _, _, _, _, _, _, _, _ => none
 | k + 1, x3, x4, x5, x191000, x191001, x191002, x191003, x191004, x191005, x191006, x191007 => (entrepotref08_demand.f k x191000 x191001 x191002 x191003 x191004 x191005 x191006 x191007 x5).bind fun t225 => (if t225 = true then (entrepotref08_Check.j14 k x3 x4 x5 x191000 x191001 x191002 x191003 x191004 x191005 x191006 x191007) else (if x3.length < 8796093022208 then (entrepotref08_Check.j14 k (x3 ++ [(⟨10, x5⟩ : S58)]) x4 x5 x191000 x191001 x191002 x191003 x191004 x191005 x191006 x191007) else (none)))
def entrepotref08_Check.j14 : Nat → List (S58) → Int → Int → ByteArray → Int → Int → Int → Int → Int → List (S60) → List Int → Option ((List (S58)))
 | 0, _, _, _, _, _, _, _, _, _, _, _ => none
 | k + 1, x3, x4, x5, x191000, x191001, x191002, x191003, x191004, x191005, x191006, x191007 => (entrepotref08_window.f k x191000 x191001 x191002 x191003 x191004 x191005 x191006 x191007 x5).bind fun t229 => (if t229 = true then (entrepotref08_Check.j15 k x3 x4 x5 x191000 x191001 x191002 x191003 x191004 x191005 x191006 x191007) else (if x3.length < 8796093022208 then (entrepotref08_Check.j15 k (x3 ++ [(⟨11, x5⟩ : S58)]) x4 x5 x191000 x191001 x191002 x191003 x191004 x191005 x191006 x191007) else (none)))
def entrepotref08_Check.j15 : Nat → List (S58) → Int → Int → ByteArray → Int → Int → Int → Int → Int → List (S60) → List Int → Option ((List (S58)))
 | 0, _, _, _, _, _, _, _, _, _, _, _ => none
 | k + 1, x3, x4, x5, x191000, x191001, x191002, x191003, x191004, x191005, x191006, x191007 => (entrepotref08_service.f x191000 x191001 x191002 x191003 x191004 x191005 x191006 x191007 x5).bind fun t233 => (if t233 = true then ((entrepotref08_mate.f k x191000 x191001 x191002 x191003 x191004 x191005 x191006 x191007 x5).bind fun t234 => (if t234 = true then (entrepotref08_Check.l0 k x3 x4 (wrap64 (x5 + 1)) x191000 x191001 x191002 x191003 x191004 x191005 x191006 x191007) else (if x3.length < 8796093022208 then (entrepotref08_Check.l0 k (x3 ++ [(⟨13, x5⟩ : S58)]) x4 (wrap64 (x5 + 1)) x191000 x191001 x191002 x191003 x191004 x191005 x191006 x191007) else (none)))) else (if x3.length < 8796093022208 then ((some (x3 ++ [(⟨12, x5⟩ : S58)] : List (S58))).bind fun y238 => ((entrepotref08_mate.f k x191000 x191001 x191002 x191003 x191004 x191005 x191006 x191007 x5).bind fun t241 => (if t241 = true then (entrepotref08_Check.l0 k y238 x4 (wrap64 (x5 + 1)) x191000 x191001 x191002 x191003 x191004 x191005 x191006 x191007) else (if y238.length < 8796093022208 then (entrepotref08_Check.l0 k (y238 ++ [(⟨13, x5⟩ : S58)]) x4 (wrap64 (x5 + 1)) x191000 x191001 x191002 x191003 x191004 x191005 x191006 x191007) else (none))))) else (none)))
end
def entrepotref08_Check.f (k : Nat) (a0_0 : ByteArray) (a0_1 : Int) (a0_2 : Int) (a0_3 : Int) (a0_4 : Int) (a0_5 : Int) (l0_6 : List (S60)) (l0_7 : List Int) : Option ((List (S58))) := (some (([] : List (S58)) : List (S58))).bind fun y191 => ((entrepotref03_Name.f k a0_0).bind fun t194 => (if t194 = true then (entrepotref08_Check.j0 k y191 a0_0 a0_1 a0_2 a0_3 a0_4 a0_5 l0_6 l0_7) else (if y191.length < 8796093022208 then (entrepotref08_Check.j0 k (y191 ++ [(⟨1, 0⟩ : S58)]) a0_0 a0_1 a0_2 a0_3 a0_4 a0_5 l0_6 l0_7) else (none))))
theorem entrepotref08_Check.mono_l : ∀ k, (∀ y0 y1 y2 y3 y4 y5 y6 y7 y8, LeO (entrepotref08_Check.j0 k y0 y1 y2 y3 y4 y5 y6 y7 y8) (entrepotref08_Check.j0 (k + 1) y0 y1 y2 y3 y4 y5 y6 y7 y8)) ∧ (∀ y0 y1 y2 y3 y4 y5 y6 y7 y8 y9, LeO (entrepotref08_Check.j1 k y0 y1 y2 y3 y4 y5 y6 y7 y8 y9) (entrepotref08_Check.j1 (k + 1) y0 y1 y2 y3 y4 y5 y6 y7 y8 y9)) ∧ (∀ y0 y1 y2 y3 y4 y5 y6 y7 y8, LeO (entrepotref08_Check.j2 k y0 y1 y2 y3 y4 y5 y6 y7 y8) (entrepotref08_Check.j2 (k + 1) y0 y1 y2 y3 y4 y5 y6 y7 y8)) ∧ (∀ y0 y1 y2 y3 y4 y5 y6 y7 y8, LeO (entrepotref08_Check.j3 k y0 y1 y2 y3 y4 y5 y6 y7 y8) (entrepotref08_Check.j3 (k + 1) y0 y1 y2 y3 y4 y5 y6 y7 y8)) ∧ (∀ y0 y1 y2 y3 y4 y5 y6 y7 y8 y9, LeO (entrepotref08_Check.j4 k y0 y1 y2 y3 y4 y5 y6 y7 y8 y9) (entrepotref08_Check.j4 (k + 1) y0 y1 y2 y3 y4 y5 y6 y7 y8 y9)) ∧ (∀ y0 y1 y2 y3 y4 y5 y6 y7 y8, LeO (entrepotref08_Check.j5 k y0 y1 y2 y3 y4 y5 y6 y7 y8) (entrepotref08_Check.j5 (k + 1) y0 y1 y2 y3 y4 y5 y6 y7 y8)) ∧ (∀ y0 y1 y2 y3 y4 y5 y6 y7 y8 y9, LeO (entrepotref08_Check.j6 k y0 y1 y2 y3 y4 y5 y6 y7 y8 y9) (entrepotref08_Check.j6 (k + 1) y0 y1 y2 y3 y4 y5 y6 y7 y8 y9)) ∧ (∀ y0 y1 y2 y3 y4 y5 y6 y7 y8, LeO (entrepotref08_Check.j7 k y0 y1 y2 y3 y4 y5 y6 y7 y8) (entrepotref08_Check.j7 (k + 1) y0 y1 y2 y3 y4 y5 y6 y7 y8)) ∧ (∀ y0 y1 y2 y3 y4 y5 y6 y7 y8 y9, LeO (entrepotref08_Check.j8 k y0 y1 y2 y3 y4 y5 y6 y7 y8 y9) (entrepotref08_Check.j8 (k + 1) y0 y1 y2 y3 y4 y5 y6 y7 y8 y9)) ∧ (∀ y0 y1 y2 y3 y4 y5 y6 y7 y8, LeO (entrepotref08_Check.j9 k y0 y1 y2 y3 y4 y5 y6 y7 y8) (entrepotref08_Check.j9 (k + 1) y0 y1 y2 y3 y4 y5 y6 y7 y8)) ∧ (∀ y0 y1 y2 y3 y4 y5 y6 y7 y8 y9 y10, LeO (entrepotref08_Check.j10 k y0 y1 y2 y3 y4 y5 y6 y7 y8 y9 y10) (entrepotref08_Check.j10 (k + 1) y0 y1 y2 y3 y4 y5 y6 y7 y8 y9 y10)) ∧ (∀ y0 y1 y2 y3 y4 y5 y6 y7 y8 y9, LeO (entrepotref08_Check.j11 k y0 y1 y2 y3 y4 y5 y6 y7 y8 y9) (entrepotref08_Check.j11 (k + 1) y0 y1 y2 y3 y4 y5 y6 y7 y8 y9)) ∧ (∀ y0 y1 y2 y3 y4 y5 y6 y7 y8 y9 y10, LeO (entrepotref08_Check.l0 k y0 y1 y2 y3 y4 y5 y6 y7 y8 y9 y10) (entrepotref08_Check.l0 (k + 1) y0 y1 y2 y3 y4 y5 y6 y7 y8 y9 y10)) ∧ (∀ y0 y1 y2 y3 y4 y5 y6 y7 y8 y9 y10, LeO (entrepotref08_Check.j13 k y0 y1 y2 y3 y4 y5 y6 y7 y8 y9 y10) (entrepotref08_Check.j13 (k + 1) y0 y1 y2 y3 y4 y5 y6 y7 y8 y9 y10)) ∧ (∀ y0 y1 y2 y3 y4 y5 y6 y7 y8 y9 y10, LeO (entrepotref08_Check.j14 k y0 y1 y2 y3 y4 y5 y6 y7 y8 y9 y10) (entrepotref08_Check.j14 (k + 1) y0 y1 y2 y3 y4 y5 y6 y7 y8 y9 y10)) ∧ (∀ y0 y1 y2 y3 y4 y5 y6 y7 y8 y9 y10, LeO (entrepotref08_Check.j15 k y0 y1 y2 y3 y4 y5 y6 y7 y8 y9 y10) (entrepotref08_Check.j15 (k + 1) y0 y1 y2 y3 y4 y5 y6 y7 y8 y9 y10))
 | 0 => ⟨fun _ _ _ _ _ _ _ _ _ r h => by simp [entrepotref08_Check.j0] at h, fun _ _ _ _ _ _ _ _ _ _ r h => by simp [entrepotref08_Check.j1] at h, fun _ _ _ _ _ _ _ _ _ r h => by simp [entrepotref08_Check.j2] at h, fun _ _ _ _ _ _ _ _ _ r h => by simp [entrepotref08_Check.j3] at h, fun _ _ _ _ _ _ _ _ _ _ r h => by simp [entrepotref08_Check.j4] at h, fun _ _ _ _ _ _ _ _ _ r h => by simp [entrepotref08_Check.j5] at h, fun _ _ _ _ _ _ _ _ _ _ r h => by simp [entrepotref08_Check.j6] at h, fun _ _ _ _ _ _ _ _ _ r h => by simp [entrepotref08_Check.j7] at h, fun _ _ _ _ _ _ _ _ _ _ r h => by simp [entrepotref08_Check.j8] at h, fun _ _ _ _ _ _ _ _ _ r h => by simp [entrepotref08_Check.j9] at h, fun _ _ _ _ _ _ _ _ _ _ _ r h => by simp [entrepotref08_Check.j10] at h, fun _ _ _ _ _ _ _ _ _ _ r h => by simp [entrepotref08_Check.j11] at h, fun _ _ _ _ _ _ _ _ _ _ _ r h => by simp [entrepotref08_Check.l0] at h, fun _ _ _ _ _ _ _ _ _ _ _ r h => by simp [entrepotref08_Check.j13] at h, fun _ _ _ _ _ _ _ _ _ _ _ r h => by simp [entrepotref08_Check.j14] at h, fun _ _ _ _ _ _ _ _ _ _ _ r h => by simp [entrepotref08_Check.j15] at h⟩
 | k + 1 => by
  obtain ⟨ih0, ih1, ih2, ih3, ih4, ih5, ih6, ih7, ih8, ih9, ih10, ih11, ih12, ih13, ih14, ih15⟩ := entrepotref08_Check.mono_l k
  refine ⟨?_, ?_, ?_, ?_, ?_, ?_, ?_, ?_, ?_, ?_, ?_, ?_, ?_, ?_, ?_, ?_⟩ <;> intros
  all_goals first | unfold entrepotref08_Check.j0 | unfold entrepotref08_Check.j1 | unfold entrepotref08_Check.j2 | unfold entrepotref08_Check.j3 | unfold entrepotref08_Check.j4 | unfold entrepotref08_Check.j5 | unfold entrepotref08_Check.j6 | unfold entrepotref08_Check.j7 | unfold entrepotref08_Check.j8 | unfold entrepotref08_Check.j9 | unfold entrepotref08_Check.j10 | unfold entrepotref08_Check.j11 | unfold entrepotref08_Check.l0 | unfold entrepotref08_Check.j13 | unfold entrepotref08_Check.j14 | unfold entrepotref08_Check.j15
  all_goals repeat' first
  | (with_reducible exact ih0 _ _ _ _ _ _ _ _ _)
  | (with_reducible exact ih1 _ _ _ _ _ _ _ _ _ _)
  | (with_reducible exact ih2 _ _ _ _ _ _ _ _ _)
  | (with_reducible exact ih3 _ _ _ _ _ _ _ _ _)
  | (with_reducible exact ih4 _ _ _ _ _ _ _ _ _ _)
  | (with_reducible exact ih5 _ _ _ _ _ _ _ _ _)
  | (with_reducible exact ih6 _ _ _ _ _ _ _ _ _ _)
  | (with_reducible exact ih7 _ _ _ _ _ _ _ _ _)
  | (with_reducible exact ih8 _ _ _ _ _ _ _ _ _ _)
  | (with_reducible exact ih9 _ _ _ _ _ _ _ _ _)
  | (with_reducible exact ih10 _ _ _ _ _ _ _ _ _ _ _)
  | (with_reducible exact ih11 _ _ _ _ _ _ _ _ _ _)
  | (with_reducible exact ih12 _ _ _ _ _ _ _ _ _ _ _)
  | (with_reducible exact ih13 _ _ _ _ _ _ _ _ _ _ _)
  | (with_reducible exact ih14 _ _ _ _ _ _ _ _ _ _ _)
  | (with_reducible exact ih15 _ _ _ _ _ _ _ _ _ _ _)
  | (with_reducible exact entrepotref03_Name.mono _ _)
  | (with_reducible exact entrepotref08_demand.mono _ _ _ _ _ _ _ _ _ _)
  | (with_reducible exact entrepotref08_mate.mono _ _ _ _ _ _ _ _ _ _)
  | (with_reducible exact entrepotref08_matrix.mono _ _ _ _ _ _ _ _ _)
  | (with_reducible exact entrepotref08_window.mono _ _ _ _ _ _ _ _ _ _)
  | (with_reducible exact LeO.refl _)
  | (with_reducible exact LeO.none _)
  | (with_reducible refine LeO.ite ?_ ?_)
  | (with_reducible refine LeO.bind ?_ (fun _ => ?_))
  | exact ih0 _ _ _ _ _ _ _ _ _
  | exact ih1 _ _ _ _ _ _ _ _ _ _
  | exact ih2 _ _ _ _ _ _ _ _ _
  | exact ih3 _ _ _ _ _ _ _ _ _
  | exact ih4 _ _ _ _ _ _ _ _ _ _
  | exact ih5 _ _ _ _ _ _ _ _ _
  | exact ih6 _ _ _ _ _ _ _ _ _ _
  | exact ih7 _ _ _ _ _ _ _ _ _
  | exact ih8 _ _ _ _ _ _ _ _ _ _
  | exact ih9 _ _ _ _ _ _ _ _ _
  | exact ih10 _ _ _ _ _ _ _ _ _ _ _
  | exact ih11 _ _ _ _ _ _ _ _ _ _
  | exact ih12 _ _ _ _ _ _ _ _ _ _ _
  | exact ih13 _ _ _ _ _ _ _ _ _ _ _
  | exact ih14 _ _ _ _ _ _ _ _ _ _ _
  | exact ih15 _ _ _ _ _ _ _ _ _ _ _
  | exact entrepotref03_Name.mono _ _
  | exact entrepotref08_demand.mono _ _ _ _ _ _ _ _ _ _
  | exact entrepotref08_mate.mono _ _ _ _ _ _ _ _ _ _
  | exact entrepotref08_matrix.mono _ _ _ _ _ _ _ _ _
  | exact entrepotref08_window.mono _ _ _ _ _ _ _ _ _ _
  | exact LeO.none _
  | refine LeO.ite ?_ ?_
  | refine LeO.bind ?_ (fun _ => ?_)
theorem entrepotref08_Check.mono : ∀ a0 a1 a2 a3 a4 a5 a6 a7 k, LeO (entrepotref08_Check.f k a0 a1 a2 a3 a4 a5 a6 a7) (entrepotref08_Check.f (k + 1) a0 a1 a2 a3 a4 a5 a6 a7) := by
 intro a0 a1 a2 a3 a4 a5 a6 a7 k
 obtain ⟨ih0, ih1, ih2, ih3, ih4, ih5, ih6, ih7, ih8, ih9, ih10, ih11, ih12, ih13, ih14, ih15⟩ := entrepotref08_Check.mono_l k
 unfold entrepotref08_Check.f
 repeat' first
   | (with_reducible exact ih0 _ _ _ _ _ _ _ _ _)
   | (with_reducible exact ih1 _ _ _ _ _ _ _ _ _ _)
   | (with_reducible exact ih2 _ _ _ _ _ _ _ _ _)
   | (with_reducible exact ih3 _ _ _ _ _ _ _ _ _)
   | (with_reducible exact ih4 _ _ _ _ _ _ _ _ _ _)
   | (with_reducible exact ih5 _ _ _ _ _ _ _ _ _)
   | (with_reducible exact ih6 _ _ _ _ _ _ _ _ _ _)
   | (with_reducible exact ih7 _ _ _ _ _ _ _ _ _)
   | (with_reducible exact ih8 _ _ _ _ _ _ _ _ _ _)
   | (with_reducible exact ih9 _ _ _ _ _ _ _ _ _)
   | (with_reducible exact ih10 _ _ _ _ _ _ _ _ _ _ _)
   | (with_reducible exact ih11 _ _ _ _ _ _ _ _ _ _)
   | (with_reducible exact ih12 _ _ _ _ _ _ _ _ _ _ _)
   | (with_reducible exact ih13 _ _ _ _ _ _ _ _ _ _ _)
   | (with_reducible exact ih14 _ _ _ _ _ _ _ _ _ _ _)
   | (with_reducible exact ih15 _ _ _ _ _ _ _ _ _ _ _)
   | (with_reducible exact entrepotref03_Name.mono _ _)
   | (with_reducible exact entrepotref08_demand.mono _ _ _ _ _ _ _ _ _ _)
   | (with_reducible exact entrepotref08_mate.mono _ _ _ _ _ _ _ _ _ _)
   | (with_reducible exact entrepotref08_matrix.mono _ _ _ _ _ _ _ _ _)
   | (with_reducible exact entrepotref08_window.mono _ _ _ _ _ _ _ _ _ _)
   | (with_reducible exact LeO.refl _)
   | (with_reducible exact LeO.none _)
   | (with_reducible refine LeO.ite ?_ ?_)
   | (with_reducible refine LeO.bind ?_ (fun _ => ?_))
   | exact ih0 _ _ _ _ _ _ _ _ _
   | exact ih1 _ _ _ _ _ _ _ _ _ _
   | exact ih2 _ _ _ _ _ _ _ _ _
   | exact ih3 _ _ _ _ _ _ _ _ _
   | exact ih4 _ _ _ _ _ _ _ _ _ _
   | exact ih5 _ _ _ _ _ _ _ _ _
   | exact ih6 _ _ _ _ _ _ _ _ _ _
   | exact ih7 _ _ _ _ _ _ _ _ _
   | exact ih8 _ _ _ _ _ _ _ _ _ _
   | exact ih9 _ _ _ _ _ _ _ _ _
   | exact ih10 _ _ _ _ _ _ _ _ _ _ _
   | exact ih11 _ _ _ _ _ _ _ _ _ _
   | exact ih12 _ _ _ _ _ _ _ _ _ _ _
   | exact ih13 _ _ _ _ _ _ _ _ _ _ _
   | exact ih14 _ _ _ _ _ _ _ _ _ _ _
   | exact ih15 _ _ _ _ _ _ _ _ _ _ _
   | exact entrepotref03_Name.mono _ _
   | exact entrepotref08_demand.mono _ _ _ _ _ _ _ _ _ _
   | exact entrepotref08_mate.mono _ _ _ _ _ _ _ _ _ _
   | exact entrepotref08_matrix.mono _ _ _ _ _ _ _ _ _
   | exact entrepotref08_window.mono _ _ _ _ _ _ _ _ _ _
   | exact LeO.none _
   | refine LeO.ite ?_ ?_
   | refine LeO.bind ?_ (fun _ => ?_)
set_option maxHeartbeats 8000000 in
set_option maxRecDepth 100000 in
theorem entrepotref08_Check.calls (k : Nat) (a0_0 : ByteArray) (a0_1 : Int) (a0_2 : Int) (a0_3 : Int) (a0_4 : Int) (a0_5 : Int) (A0_6 : Option Addr) (c0_6 : Nat) (l0_6 : List (S60)) (A0_7 : Option Addr) (c0_7 : Nat) (l0_7 : List Int) (r : List (S58)) (w : World) (hr0_6 : Kd.C k60 w A0_6 l0_6.length l0_6) (hc0_6 : l0_6.length ≤ c0_6) (hr0_7 : Kd.C (Kd.int .i64) w A0_7 l0_7.length l0_7) (hc0_7 : l0_7.length ≤ c0_7) (h : entrepotref08_Check.f k a0_0 a0_1 a0_2 a0_3 a0_4 a0_5 l0_6 l0_7 = some r) :
  Calls Try.prog 14 #[.agg #[.string a0_0, .int .i64 a0_1, .int .i64 a0_2, .int .i64 a0_3, .int .i64 a0_4, .int .i64 a0_5, .slice A0_6 l0_6.length c0_6, .slice A0_7 l0_7.length c0_7]] w fun e w' => ∃ v0_ : Value, e = .returned (v0_) ∧ Kd.R k58 58 w' w.heap.size (fun _ => True) v0_ r ∧ Below w.heap.size w w' := by
 have hu36 := Try.underlying36
 have hu58 := Try.underlying58
 have HR0_6 := Aside0.mk hr0_6
 have HC0_6 := Aside0.mk hc0_6
 clear hr0_6 hc0_6
 have HR0_7 := Aside0.mk hr0_7
 have HC0_7 := Aside0.mk hc0_7
 clear hr0_7 hc0_7
 have HB := Aside0.mk (Below.refl w.heap.size w)
 have H : ((some (([] : List (S58)) : List (S58))).bind fun y191 => ((entrepotref03_Name.f k a0_0).bind fun t194 => (if t194 = true then (entrepotref08_Check.j0 k y191 a0_0 a0_1 a0_2 a0_3 a0_4 a0_5 l0_6 l0_7) else (if y191.length < 8796093022208 then (entrepotref08_Check.j0 k (y191 ++ [(⟨1, 0⟩ : S58)]) a0_0 a0_1 a0_2 a0_3 a0_4 a0_5 l0_6 l0_7) else (none))))) = some r := h
 clear h
 obtain ⟨y191, hy191⟩ : ∃ y_ : List (S58), y_ = (([] : List (S58))) := ⟨_, rfl⟩
 replace H : ((entrepotref03_Name.f k a0_0).bind fun t194 => (if t194 = true then (entrepotref08_Check.j0 k y191 a0_0 a0_1 a0_2 a0_3 a0_4 a0_5 l0_6 l0_7) else (if y191.length < 8796093022208 then (entrepotref08_Check.j0 k (y191 ++ [(⟨1, 0⟩ : S58)]) a0_0 a0_1 a0_2 a0_3 a0_4 a0_5 l0_6 l0_7) else (none)))) = some r := by first | (rw [hy191]; with_reducible exact H) | (have H2_ := (Option.bind_some _ _).symm.trans H; rw [hy191]; with_reducible exact H2_) | (have H2_ := (Option.bind_some _ _).symm.trans H; with_reducible exact H2_) | with_reducible exact H | (rw [hy191]; exact H) | exact H
 have Ny191 := Aside0.mk hy191
 clear hy191
 replace H := Option.bind_eq_some_iff.mp H
 obtain ⟨t194, A20, H⟩ := H
 replace H : (if t194 = true then (entrepotref08_Check.j0 k y191 a0_0 a0_1 a0_2 a0_3 a0_4 a0_5 l0_6 l0_7) else (if y191.length < 8796093022208 then (entrepotref08_Check.j0 k (y191 ++ [(⟨1, 0⟩ : S58)]) a0_0 a0_1 a0_2 a0_3 a0_4 a0_5 l0_6 l0_7) else (none))) = some r := H
 have A2 := Aside0.mk A20
 clear A20
 have HC3 := Aside0.mk H
 clear H
 go_enter Try.func14, Try.ntmps14
 go_upto_if 10 with (first | ((with_reducible refine gate_dst (N := 1) rfl ?_); refine box_event ?hg (N := 1) ?hd (cs := #[.string a0_0, .int .i64 a0_1, .int .i64 a0_2, .int .i64 a0_3, .int .i64 a0_4, .int .i64 a0_5, .slice A0_6 l0_6.length c0_6, .slice A0_7 l0_7.length c0_7]) (t := 36) ?hr ?_; (case hd => rfl); (case hg => rfl); (case hr => first | (go_simp; done) | (go_simp; rfl)); intro gb190 hg w4 hbox hb; have n0_ := Aside0.mk (below_step (by repeat (first | (with_reducible first | exact HB.out | apply below_alloc | apply pw_below_drewN | apply below_drew1) | exact HB.out)) hb); have n1_ := Aside0.mk (hbox); have n2_ := Aside0.mk ((by rw [hg]; exact (below_size (by repeat (first | (with_reducible first | exact HB.out | apply below_alloc | apply pw_below_drewN | apply below_drew1) | exact HB.out))) : w.heap.size ≤ gb190)); have n3_ := Aside0.mk ((by rw [hg]; exact (below_size (by repeat (first | (with_reducible first | exact HB.out | apply below_alloc | apply pw_below_drewN | apply below_drew1) | exact HB.out))) : w.heap.size ≤ gb190)); clear HB; have HB := n0_; have BK190 := n1_; have GW190 := n2_; have GE190 := n3_; clear n0_ n1_ n2_ n3_; clear hb hbox hg) | ((with_reducible refine gate_dst (N := 6) rfl ?_); refine Kd.R_lit k58 _ 58 ?hg (N := 6) ?hd (xs := ([] : List (S58))) (inner := []) (ok := fun _ => True) (okp := fun _ => True) ?hr ?hp (fun _ hk => hk) trivial (Below.refl _ _) (Nat.le_refl _) (by simp) ?_; (case hd => rfl); (case hg => rfl); (case hr => first | (go_simp; done) | (go_simp; rfl)); (case hp => exact (Reps.none _ _)); intro v192 w5 ho6 hb hg_ hnew_; clear hg_ hnew_; (first | rw [← Ny191.out] at ho6 | (simp only [Int.reduceToNat] at ho6; rw [← Ny191.out] at ho6)); have n0_ := Aside0.mk (Kd.R_lower ho6 (below_size (by repeat (first | (with_reducible first | exact HB.out | apply below_alloc | apply pw_below_drewN | apply below_drew1 | refine below_set ?_ GE190.out) | exact HB.out)))); have n1_ := Aside0.mk (blk_below (g := gb190) (o := .cells #[.string a0_0, .int .i64 a0_1, .int .i64 a0_2, .int .i64 a0_3, .int .i64 a0_4, .int .i64 a0_5, .slice A0_6 l0_6.length c0_6, .slice A0_7 l0_7.length c0_7] 36 (0, 0)) (by (with_reducible repeat (first | refine blk_drewN ?_ _ | refine blk_drew ?_ | refine blk_alloc ?_ _)); exact BK190.out) hb); have n2_ := Aside0.mk (below_step (by repeat (first | (with_reducible first | exact HB.out | apply below_alloc | apply pw_below_drewN | apply below_drew1 | refine below_set ?_ GE190.out) | exact HB.out)) hb); clear BK190; clear HB; have HO193 := n0_; have BK190 := n1_; have HB := n2_; clear n0_ n1_ n2_; clear hb ho6; obtain ⟨hcz7_0, hcz7_1, hcz7_2, hcz7_3, hcz7_4, hcz7_5, hcz7_6, hcz7_7, hfz7_0, hfz7_1, hfz7_2, hfz7_3, hfz7_4, hfz7_5, hfz7_6, hfz7_7⟩ := blk8_ BK190.out) | ((with_reducible refine gate_callee (f := 34) rfl ?_); refine goesL_ (some 9) rfl rfl Try.func34 (by kernel_rfl) rfl #[.string a0_0] rfl (by (try simp only [List.map_toArray, List.map_cons, List.map_nil]); first | done | rfl | (simp only [List.length_drop, List.length_take]; rfl)) ?_; (with_reducible refine (entrepotref03_Name.calls k a0_0 t194 _ A2.out).mono ?_); rintro e w' ⟨rfl, ⟨nd, rfl⟩⟩; refine ⟨_, rfl, ?_⟩))
 (try simp only [Act.put, List.setIfInBounds_toArray, List.set_cons_zero, List.set_cons_succ])
 go_cut [3] (fun v3 wc => ∃ (kq : Nat) (x3_2 : List (S58)), Aside0 (entrepotref08_Check.j0 kq x3_2 a0_0 a0_1 a0_2 a0_3 a0_4 a0_5 l0_6 l0_7 = some r) ∧ Aside0 (kq ≤ k) ∧ Aside0 (Kd.R k58 58 wc w.heap.size (fun _ => True) v3 x3_2) ∧ Aside0 (wc.heap[gb190]? = some (.cells #[.string a0_0, .int .i64 a0_1, .int .i64 a0_2, .int .i64 a0_3, .int .i64 a0_4, .int .i64 a0_5, (.slice A0_6 l0_6.length c0_6), (.slice A0_7 l0_7.length c0_7)] 36 (0, 0))) ∧ Aside0 (Below w.heap.size w wc))
 case first => as_aux_lemma =>
  have H := HC3.out
  clear HC3
  by_cases c8 : t194 = true
  ·subst c8
   have H1 : (entrepotref08_Check.j0 k y191 a0_0 a0_1 a0_2 a0_3 a0_4 a0_5 l0_6 l0_7) = some r := by rw [if_pos rfl] at H; exact H
   clear H
   have H := H1
   clear H1
   have H' := Aside0.mk H
   clear H
   go_wp2
   go_meet
   case rel => exact ⟨_, (y191), H', ⟨by first | omega | exact Nat.le_refl _⟩, ⟨by (with_reducible repeat (first | apply Kd.R_alloc | apply Kd.R_drewN | apply Kd.R_drew)); exact HO193.out⟩, ⟨by (with_reducible repeat (first | refine blk_drewN ?_ _ | refine blk_drew ?_ | refine blk_alloc ?_ _)); exact BK190.out⟩, ⟨by repeat (first | (with_reducible first | exact HB.out | apply below_alloc | apply pw_below_drewN | apply below_drew1 | refine below_set ?_ GE190.out) | exact HB.out)⟩⟩
  ·replace c8 := Bool.eq_false_iff.mpr c8
   subst c8
   have H1 : (if y191.length < 8796093022208 then (entrepotref08_Check.j0 k (y191 ++ [(⟨1, 0⟩ : S58)]) a0_0 a0_1 a0_2 a0_3 a0_4 a0_5 l0_6 l0_7) else (none)) = some r := by rw [if_neg (show ¬ (false = true) by decide)] at H; exact H
   clear H
   have H := H1
   clear H1
   by_cases c9 : y191.length < 8796093022208
   ·rw [if_pos c9] at H
    have LMc9 := Aside0.mk c9
    clear c9
    obtain ⟨y195, hy195⟩ : ∃ y_ : List (S58), y_ = (y191 ++ [(⟨1, 0⟩ : S58)]) := ⟨_, rfl⟩
    replace H : (entrepotref08_Check.j0 k y195 a0_0 a0_1 a0_2 a0_3 a0_4 a0_5 l0_6 l0_7) = some r := by first | (rw [hy195]; with_reducible exact H) | (have H2_ := (Option.bind_some _ _).symm.trans H; rw [hy195]; with_reducible exact H2_) | (have H2_ := (Option.bind_some _ _).symm.trans H; with_reducible exact H2_) | with_reducible exact H | (rw [hy195]; exact H) | exact H
    have Ny195 := Aside0.mk hy195
    clear hy195
    have H' := Aside0.mk H
    clear H
    go_wp2_with (first | ((with_reducible refine gate_builtin (b := .append) (xs := #[.tmp 11, .tmp 13]) rfl ?_); at_builtin; refine Kd.R_append k58 (w0 := w) w.heap.size rfl (.tmp 11) (.tmp 13) 31 58 (.agg #[(.int .i64 0), (.int .i64 0)]) 16 rfl Try.underlying31 info58 rfl (by decide) (by omega) v192 y191 (⟨1, 0⟩ : S58) [.int .i64 1, .int .i64 0] (fun _ => True) (fun _ => False) rfl rfl ?aP (fun _ hk => hk.elim) ?aF ?aO ?aB ?aS ?aL ?_; (case aP => exact k58_mkM _ _ _ (⟨1, 0⟩ : S58)); (case aB => exact (by repeat (first | (with_reducible first | exact HB.out | apply below_alloc | apply pw_below_drewN | apply below_drew1 | refine below_set ?_ GE190.out) | exact HB.out))); (case aF => exact (fun _ _ => trivial)); (case aO => exact (by (with_reducible repeat (first | apply Kd.R_alloc | apply Kd.R_drewN | apply Kd.R_drew)); exact HO193.out)); (case aS => exact (below_size (by repeat (first | (with_reducible first | exact HB.out | apply below_alloc | apply pw_below_drewN | apply below_drew1 | refine below_set ?_ GE190.out) | exact HB.out)))); (case aL => have := LMc9.out; omega); intro v196 w10 ho hb hg hat; rw [← Ny195.out] at ho; have n0_ := Aside0.mk (blk_grown (g := gb190) (o := .cells #[.string a0_0, .int .i64 a0_1, .int .i64 a0_2, .int .i64 a0_3, .int .i64 a0_4, .int .i64 a0_5, .slice A0_6 l0_6.length c0_6, .slice A0_7 l0_7.length c0_7] 36 (0, 0)) (by (with_reducible repeat (first | refine blk_drewN ?_ _ | refine blk_drew ?_ | refine blk_alloc ?_ _)); exact BK190.out) hg (Kd.R_ne HO193.out BK190.out (by decide))); have n1_ := Aside0.mk (hb); have n2_ := Aside0.mk (ho); clear BK190; clear HB; clear HO193; have BK190 := n0_; have HB := n1_; have HO197 := n2_; clear n0_ n1_ n2_; clear ho hb hg hat))
    go_meet
    case rel => exact ⟨_, (y195), H', ⟨by first | omega | exact Nat.le_refl _⟩, ⟨by (with_reducible repeat (first | apply Kd.R_alloc | apply Kd.R_drewN | apply Kd.R_drew)); exact HO197.out⟩, ⟨by (with_reducible repeat (first | refine blk_drewN ?_ _ | refine blk_drew ?_ | refine blk_alloc ?_ _)); exact BK190.out⟩, ⟨by repeat (first | (with_reducible first | exact HB.out | apply below_alloc | apply pw_below_drewN | apply below_drew1 | refine below_set ?_ GE190.out) | exact HB.out)⟩⟩
   ·rw [if_neg c9] at H
    exact absurd H (by simp)
 case rest => as_aux_lemma =>
  clear HC3
  (try clear hcz7_0); (try clear hcz7_1); (try clear hcz7_2); (try clear hcz7_3); (try clear hcz7_4); (try clear hcz7_5); (try clear hcz7_6); (try clear hcz7_7); (try clear hfz7_0); (try clear hfz7_1); (try clear hfz7_2); (try clear hfz7_3); (try clear hfz7_4); (try clear hfz7_5); (try clear hfz7_6); (try clear hfz7_7)
  obtain ⟨kq, x3_2, HA, HJ2, HO_3, BK190, HB⟩ := hcut
  cases kq with
  | zero => exact absurd HA.out (by simp [entrepotref08_Check.j0])
  | succ kj2 =>
   have H := HA.out
   clear HA
   simp only [entrepotref08_Check.j0] at H
   have HC11 := Aside0.mk H
   clear H
   go_upto_region 4 with (fail)
   go_cut [22] (fun v22 wc => ∃ (kq : Nat) (x22_10 : Bool), v22 = .bool x22_10 ∧ Aside0 (entrepotref08_Check.j1 kq x3_2 x22_10 a0_0 a0_1 a0_2 a0_3 a0_4 a0_5 l0_6 l0_7 = some r) ∧ Aside0 (kq ≤ kj2) ∧ Aside0 (Kd.R k58 58 wc w.heap.size (fun _ => True) u3 x3_2) ∧ Aside0 (wc.heap[gb190]? = some (.cells #[.string a0_0, .int .i64 a0_1, .int .i64 a0_2, .int .i64 a0_3, .int .i64 a0_4, .int .i64 a0_5, (.slice A0_6 l0_6.length c0_6), (.slice A0_7 l0_7.length c0_7)] 36 (0, 0))) ∧ Aside0 (Below w.heap.size w wc))
   case first => as_aux_lemma =>
    have H := HC11.out
    clear HC11
    by_cases c12 : a0_1 < 1
    ·rw [if_pos c12] at H
     have c12b0 : decide (a0_1 < 1) = true := decide_eq_true c12
     clear c12
     (first | rw [c12b0] | (simp only [i64_w, i32_w]; rw [c12b0]) | skip)
     have H' := Aside0.mk H
     clear H
     obtain ⟨hcz13_0, hcz13_1, hcz13_2, hcz13_3, hcz13_4, hcz13_5, hcz13_6, hcz13_7, hfz13_0, hfz13_1, hfz13_2, hfz13_3, hfz13_4, hfz13_5, hfz13_6, hfz13_7⟩ := blk8_ BK190.out
     go_wp2
     go_meet
     case rel => exact ⟨_, (true), (by first | rfl | (simp; done) | (simp [*]; done)), H', ⟨by have := HJ2.out; first | omega | exact Nat.le_refl _⟩, ⟨by (with_reducible repeat (first | apply Kd.R_alloc | apply Kd.R_drewN | apply Kd.R_drew)); exact HO_3.out⟩, ⟨by (with_reducible repeat (first | refine blk_drewN ?_ _ | refine blk_drew ?_ | refine blk_alloc ?_ _)); exact BK190.out⟩, ⟨by repeat (first | (with_reducible first | exact HB.out | apply below_alloc | apply pw_below_drewN | apply below_drew1 | refine below_set ?_ GE190.out) | exact HB.out)⟩⟩
    ·rw [if_neg c12] at H
     have c12b0 : decide (a0_1 < 1) = false := decide_eq_false c12
     clear c12
     (first | rw [c12b0] | (simp only [i64_w, i32_w]; rw [c12b0]) | skip)
     have H' := Aside0.mk H
     clear H
     obtain ⟨hcz14_0, hcz14_1, hcz14_2, hcz14_3, hcz14_4, hcz14_5, hcz14_6, hcz14_7, hfz14_0, hfz14_1, hfz14_2, hfz14_3, hfz14_4, hfz14_5, hfz14_6, hfz14_7⟩ := blk8_ BK190.out
     go_wp2
     go_meet
     case rel => exact ⟨_, (decide (a0_1 > 4)), (by first | rfl | (simp; done) | (simp [*]; done)), H', ⟨by have := HJ2.out; first | omega | exact Nat.le_refl _⟩, ⟨by (with_reducible repeat (first | apply Kd.R_alloc | apply Kd.R_drewN | apply Kd.R_drew)); exact HO_3.out⟩, ⟨by (with_reducible repeat (first | refine blk_drewN ?_ _ | refine blk_drew ?_ | refine blk_alloc ?_ _)); exact BK190.out⟩, ⟨by repeat (first | (with_reducible first | exact HB.out | apply below_alloc | apply pw_below_drewN | apply below_drew1 | refine below_set ?_ GE190.out) | exact HB.out)⟩⟩
   case rest => as_aux_lemma =>
    clear HC11
    obtain ⟨kq, x22_10, rfl, HA, HJ10, HO_3, BK190, HB⟩ := hcut
    cases kq with
    | zero => exact absurd HA.out (by simp [entrepotref08_Check.j1])
    | succ kj10 =>
     have H := HA.out
     clear HA
     simp only [entrepotref08_Check.j1] at H
     have HC15 := Aside0.mk H
     clear H
     go_upto_if 22 with (fail)
     go_cut [3] (fun v3 wc => ∃ (kq : Nat) (x3_14 : List (S58)), Aside0 (entrepotref08_Check.j2 kq x3_14 a0_0 a0_1 a0_2 a0_3 a0_4 a0_5 l0_6 l0_7 = some r) ∧ Aside0 (kq ≤ kj10) ∧ Aside0 (Kd.R k58 58 wc w.heap.size (fun _ => True) v3 x3_14) ∧ Aside0 (wc.heap[gb190]? = some (.cells #[.string a0_0, .int .i64 a0_1, .int .i64 a0_2, .int .i64 a0_3, .int .i64 a0_4, .int .i64 a0_5, (.slice A0_6 l0_6.length c0_6), (.slice A0_7 l0_7.length c0_7)] 36 (0, 0))) ∧ Aside0 (Below w.heap.size w wc))
     case first => as_aux_lemma =>
      have H := HC15.out
      clear HC15
      by_cases c16 : x22_10 = true
      ·subst c16
       have H1 : (if x3_2.length < 8796093022208 then (entrepotref08_Check.j2 kj10 (x3_2 ++ [(⟨2, 0⟩ : S58)]) a0_0 a0_1 a0_2 a0_3 a0_4 a0_5 l0_6 l0_7) else (none)) = some r := by rw [if_pos rfl] at H; exact H
       clear H
       have H := H1
       clear H1
       by_cases c17 : x3_2.length < 8796093022208
       ·rw [if_pos c17] at H
        have LMc17 := Aside0.mk c17
        clear c17
        obtain ⟨y198, hy198⟩ : ∃ y_ : List (S58), y_ = (x3_2 ++ [(⟨2, 0⟩ : S58)]) := ⟨_, rfl⟩
        replace H : (entrepotref08_Check.j2 kj10 y198 a0_0 a0_1 a0_2 a0_3 a0_4 a0_5 l0_6 l0_7) = some r := by first | (rw [hy198]; with_reducible exact H) | (have H2_ := (Option.bind_some _ _).symm.trans H; rw [hy198]; with_reducible exact H2_) | (have H2_ := (Option.bind_some _ _).symm.trans H; with_reducible exact H2_) | with_reducible exact H | (rw [hy198]; exact H) | exact H
        have Ny198 := Aside0.mk hy198
        clear hy198
        have H' := Aside0.mk H
        clear H
        go_wp2_with (first | ((with_reducible refine gate_builtin (b := .append) (xs := #[.tmp 23, .tmp 25]) rfl ?_); at_builtin; refine Kd.R_append k58 (w0 := w) w.heap.size rfl (.tmp 23) (.tmp 25) 31 58 (.agg #[(.int .i64 0), (.int .i64 0)]) 16 rfl Try.underlying31 info58 rfl (by decide) (by omega) u3 x3_2 (⟨2, 0⟩ : S58) [.int .i64 2, .int .i64 0] (fun _ => True) (fun _ => False) rfl rfl ?aP (fun _ hk => hk.elim) ?aF ?aO ?aB ?aS ?aL ?_; (case aP => exact k58_mkM _ _ _ (⟨2, 0⟩ : S58)); (case aB => exact (by repeat (first | (with_reducible first | exact HB.out | apply below_alloc | apply pw_below_drewN | apply below_drew1 | refine below_set ?_ GE190.out) | exact HB.out))); (case aF => exact (fun _ _ => trivial)); (case aO => exact (by (with_reducible repeat (first | apply Kd.R_alloc | apply Kd.R_drewN | apply Kd.R_drew)); exact HO_3.out)); (case aS => exact (below_size (by repeat (first | (with_reducible first | exact HB.out | apply below_alloc | apply pw_below_drewN | apply below_drew1 | refine below_set ?_ GE190.out) | exact HB.out)))); (case aL => have := LMc17.out; omega); intro v199 w18 ho hb hg hat; rw [← Ny198.out] at ho; have n0_ := Aside0.mk (blk_grown (g := gb190) (o := .cells #[.string a0_0, .int .i64 a0_1, .int .i64 a0_2, .int .i64 a0_3, .int .i64 a0_4, .int .i64 a0_5, .slice A0_6 l0_6.length c0_6, .slice A0_7 l0_7.length c0_7] 36 (0, 0)) (by (with_reducible repeat (first | refine blk_drewN ?_ _ | refine blk_drew ?_ | refine blk_alloc ?_ _)); exact BK190.out) hg (Kd.R_ne HO_3.out BK190.out (by decide))); have n1_ := Aside0.mk (hb); have n2_ := Aside0.mk (ho); clear BK190; clear HB; clear HO_3; have BK190 := n0_; have HB := n1_; have HO200 := n2_; clear n0_ n1_ n2_; clear ho hb hg hat))
        go_meet
        case rel => exact ⟨_, (y198), H', ⟨by have := HJ2.out; have := HJ10.out; first | omega | exact Nat.le_refl _⟩, ⟨by (with_reducible repeat (first | apply Kd.R_alloc | apply Kd.R_drewN | apply Kd.R_drew)); exact HO200.out⟩, ⟨by (with_reducible repeat (first | refine blk_drewN ?_ _ | refine blk_drew ?_ | refine blk_alloc ?_ _)); exact BK190.out⟩, ⟨by repeat (first | (with_reducible first | exact HB.out | apply below_alloc | apply pw_below_drewN | apply below_drew1 | refine below_set ?_ GE190.out) | exact HB.out)⟩⟩
       ·rw [if_neg c17] at H
        exact absurd H (by simp)
      ·replace c16 := Bool.eq_false_iff.mpr c16
       subst c16
       have H1 : (entrepotref08_Check.j2 kj10 x3_2 a0_0 a0_1 a0_2 a0_3 a0_4 a0_5 l0_6 l0_7) = some r := by rw [if_neg (show ¬ (false = true) by decide)] at H; exact H
       clear H
       have H := H1
       clear H1
       have H' := Aside0.mk H
       clear H
       go_wp2
       go_meet
       case rel => exact ⟨_, (x3_2), H', ⟨by have := HJ2.out; have := HJ10.out; first | omega | exact Nat.le_refl _⟩, ⟨by (with_reducible repeat (first | apply Kd.R_alloc | apply Kd.R_drewN | apply Kd.R_drew)); exact HO_3.out⟩, ⟨by (with_reducible repeat (first | refine blk_drewN ?_ _ | refine blk_drew ?_ | refine blk_alloc ?_ _)); exact BK190.out⟩, ⟨by repeat (first | (with_reducible first | exact HB.out | apply below_alloc | apply pw_below_drewN | apply below_drew1 | refine below_set ?_ GE190.out) | exact HB.out)⟩⟩
     case rest => as_aux_lemma =>
      clear HC15
      obtain ⟨kq, x3_14, HA, HJ14, HO_3, BK190, HB⟩ := hcut
      cases kq with
      | zero => exact absurd HA.out (by simp [entrepotref08_Check.j2])
      | succ kj14 =>
       have H := HA.out
       clear HA
       simp only [entrepotref08_Check.j2] at H
       replace H := Option.bind_eq_some_iff.mp H
       obtain ⟨t201, A190, H⟩ := H
       replace H : (if t201 = true then (entrepotref08_Check.j3 kj14 x3_14 a0_0 a0_1 a0_2 a0_3 a0_4 a0_5 l0_6 l0_7) else (if x3_14.length < 8796093022208 then (entrepotref08_Check.j3 kj14 (x3_14 ++ [(⟨3, 0⟩ : S58)]) a0_0 a0_1 a0_2 a0_3 a0_4 a0_5 l0_6 l0_7) else (none))) = some r := H
       have A19 := Aside0.mk A190
       clear A190
       have HC20 := Aside0.mk H
       clear H
       obtain ⟨hcz21_0, hcz21_1, hcz21_2, hcz21_3, hcz21_4, hcz21_5, hcz21_6, hcz21_7, hfz21_0, hfz21_1, hfz21_2, hfz21_3, hfz21_4, hfz21_5, hfz21_6, hfz21_7⟩ := blk8_ BK190.out
       go_upto_if 30 with (first | ((with_reducible refine gate_callee (f := 35) rfl ?_); refine goesL_ (some 29) rfl rfl Try.func35 (by kernel_rfl) rfl #[.int .i64 a0_2] rfl (by (try simp only [List.map_toArray, List.map_cons, List.map_nil]); first | done | rfl | (simp only [List.length_drop, List.length_take]; rfl)) ?_; (with_reducible refine (entrepotref06_Known.calls a0_2 t201 _ A19.out).mono ?_); rintro e w' ⟨rfl, ⟨nd, rfl⟩⟩; refine ⟨_, rfl, ?_⟩))
       (try simp only [Act.put, List.setIfInBounds_toArray, List.set_cons_zero, List.set_cons_succ])
       go_cut [3] (fun v3 wc => ∃ (kq : Nat) (x3_19 : List (S58)), Aside0 (entrepotref08_Check.j3 kq x3_19 a0_0 a0_1 a0_2 a0_3 a0_4 a0_5 l0_6 l0_7 = some r) ∧ Aside0 (kq ≤ kj14) ∧ Aside0 (Kd.R k58 58 wc w.heap.size (fun _ => True) v3 x3_19) ∧ Aside0 (wc.heap[gb190]? = some (.cells #[.string a0_0, .int .i64 a0_1, .int .i64 a0_2, .int .i64 a0_3, .int .i64 a0_4, .int .i64 a0_5, (.slice A0_6 l0_6.length c0_6), (.slice A0_7 l0_7.length c0_7)] 36 (0, 0))) ∧ Aside0 (Below w.heap.size w wc))
       case first => as_aux_lemma =>
        have H := HC20.out
        clear HC20
        by_cases c22 : t201 = true
        ·subst c22
         have H1 : (entrepotref08_Check.j3 kj14 x3_14 a0_0 a0_1 a0_2 a0_3 a0_4 a0_5 l0_6 l0_7) = some r := by rw [if_pos rfl] at H; exact H
         clear H
         have H := H1
         clear H1
         have H' := Aside0.mk H
         clear H
         go_wp2
         go_meet
         case rel => exact ⟨_, (x3_14), H', ⟨by have := HJ2.out; have := HJ10.out; have := HJ14.out; first | omega | exact Nat.le_refl _⟩, ⟨by (with_reducible repeat (first | apply Kd.R_alloc | apply Kd.R_drewN | apply Kd.R_drew)); exact HO_3.out⟩, ⟨by (with_reducible repeat (first | refine blk_drewN ?_ _ | refine blk_drew ?_ | refine blk_alloc ?_ _)); exact BK190.out⟩, ⟨by repeat (first | (with_reducible first | exact HB.out | apply below_alloc | apply pw_below_drewN | apply below_drew1 | refine below_set ?_ GE190.out) | exact HB.out)⟩⟩
        ·replace c22 := Bool.eq_false_iff.mpr c22
         subst c22
         have H1 : (if x3_14.length < 8796093022208 then (entrepotref08_Check.j3 kj14 (x3_14 ++ [(⟨3, 0⟩ : S58)]) a0_0 a0_1 a0_2 a0_3 a0_4 a0_5 l0_6 l0_7) else (none)) = some r := by rw [if_neg (show ¬ (false = true) by decide)] at H; exact H
         clear H
         have H := H1
         clear H1
         by_cases c23 : x3_14.length < 8796093022208
         ·rw [if_pos c23] at H
          have LMc23 := Aside0.mk c23
          clear c23
          obtain ⟨y202, hy202⟩ : ∃ y_ : List (S58), y_ = (x3_14 ++ [(⟨3, 0⟩ : S58)]) := ⟨_, rfl⟩
          replace H : (entrepotref08_Check.j3 kj14 y202 a0_0 a0_1 a0_2 a0_3 a0_4 a0_5 l0_6 l0_7) = some r := by first | (rw [hy202]; with_reducible exact H) | (have H2_ := (Option.bind_some _ _).symm.trans H; rw [hy202]; with_reducible exact H2_) | (have H2_ := (Option.bind_some _ _).symm.trans H; with_reducible exact H2_) | with_reducible exact H | (rw [hy202]; exact H) | exact H
          have Ny202 := Aside0.mk hy202
          clear hy202
          have H' := Aside0.mk H
          clear H
          go_wp2_with (first | ((with_reducible refine gate_builtin (b := .append) (xs := #[.tmp 31, .tmp 33]) rfl ?_); at_builtin; refine Kd.R_append k58 (w0 := w) w.heap.size rfl (.tmp 31) (.tmp 33) 31 58 (.agg #[(.int .i64 0), (.int .i64 0)]) 16 rfl Try.underlying31 info58 rfl (by decide) (by omega) u3 x3_14 (⟨3, 0⟩ : S58) [.int .i64 3, .int .i64 0] (fun _ => True) (fun _ => False) rfl rfl ?aP (fun _ hk => hk.elim) ?aF ?aO ?aB ?aS ?aL ?_; (case aP => exact k58_mkM _ _ _ (⟨3, 0⟩ : S58)); (case aB => exact (by repeat (first | (with_reducible first | exact HB.out | apply below_alloc | apply pw_below_drewN | apply below_drew1 | refine below_set ?_ GE190.out) | exact HB.out))); (case aF => exact (fun _ _ => trivial)); (case aO => exact (by (with_reducible repeat (first | apply Kd.R_alloc | apply Kd.R_drewN | apply Kd.R_drew)); exact HO_3.out)); (case aS => exact (below_size (by repeat (first | (with_reducible first | exact HB.out | apply below_alloc | apply pw_below_drewN | apply below_drew1 | refine below_set ?_ GE190.out) | exact HB.out)))); (case aL => have := LMc23.out; omega); intro v203 w24 ho hb hg hat; rw [← Ny202.out] at ho; have n0_ := Aside0.mk (blk_grown (g := gb190) (o := .cells #[.string a0_0, .int .i64 a0_1, .int .i64 a0_2, .int .i64 a0_3, .int .i64 a0_4, .int .i64 a0_5, .slice A0_6 l0_6.length c0_6, .slice A0_7 l0_7.length c0_7] 36 (0, 0)) (by (with_reducible repeat (first | refine blk_drewN ?_ _ | refine blk_drew ?_ | refine blk_alloc ?_ _)); exact BK190.out) hg (Kd.R_ne HO_3.out BK190.out (by decide))); have n1_ := Aside0.mk (hb); have n2_ := Aside0.mk (ho); clear BK190; clear HB; clear HO_3; have BK190 := n0_; have HB := n1_; have HO204 := n2_; clear n0_ n1_ n2_; clear ho hb hg hat))
          go_meet
          case rel => exact ⟨_, (y202), H', ⟨by have := HJ2.out; have := HJ10.out; have := HJ14.out; first | omega | exact Nat.le_refl _⟩, ⟨by (with_reducible repeat (first | apply Kd.R_alloc | apply Kd.R_drewN | apply Kd.R_drew)); exact HO204.out⟩, ⟨by (with_reducible repeat (first | refine blk_drewN ?_ _ | refine blk_drew ?_ | refine blk_alloc ?_ _)); exact BK190.out⟩, ⟨by repeat (first | (with_reducible first | exact HB.out | apply below_alloc | apply pw_below_drewN | apply below_drew1 | refine below_set ?_ GE190.out) | exact HB.out)⟩⟩
         ·rw [if_neg c23] at H
          exact absurd H (by simp)
       case rest => as_aux_lemma =>
        clear HC20
        (try clear hcz21_0); (try clear hcz21_1); (try clear hcz21_2); (try clear hcz21_3); (try clear hcz21_4); (try clear hcz21_5); (try clear hcz21_6); (try clear hcz21_7); (try clear hfz21_0); (try clear hfz21_1); (try clear hfz21_2); (try clear hfz21_3); (try clear hfz21_4); (try clear hfz21_5); (try clear hfz21_6); (try clear hfz21_7)
        obtain ⟨kq, x3_19, HA, HJ19, HO_3, BK190, HB⟩ := hcut
        cases kq with
        | zero => exact absurd HA.out (by simp [entrepotref08_Check.j3])
        | succ kj19 =>
         have H := HA.out
         clear HA
         simp only [entrepotref08_Check.j3] at H
         have HC25 := Aside0.mk H
         clear H
         go_upto_region 8 with (fail)
         go_cut [52] (fun v52 wc => ∃ (kq : Nat) (x52_24 : Bool), v52 = .bool x52_24 ∧ Aside0 (entrepotref08_Check.j4 kq x3_19 x52_24 a0_0 a0_1 a0_2 a0_3 a0_4 a0_5 l0_6 l0_7 = some r) ∧ Aside0 (kq ≤ kj19) ∧ Aside0 (Kd.R k58 58 wc w.heap.size (fun _ => True) u3 x3_19) ∧ Aside0 (wc.heap[gb190]? = some (.cells #[.string a0_0, .int .i64 a0_1, .int .i64 a0_2, .int .i64 a0_3, .int .i64 a0_4, .int .i64 a0_5, (.slice A0_6 l0_6.length c0_6), (.slice A0_7 l0_7.length c0_7)] 36 (0, 0))) ∧ Aside0 (Below w.heap.size w wc))
         case first => as_aux_lemma =>
          have H := HC25.out
          clear HC25
          by_cases c26 : a0_3 < 0
          ·rw [if_pos c26] at H
           have c26b0 : decide (a0_3 < 0) = true := decide_eq_true c26
           clear c26
           (first | rw [c26b0] | (simp only [i64_w, i32_w]; rw [c26b0]) | skip)
           have H' := Aside0.mk H
           clear H
           obtain ⟨hcz27_0, hcz27_1, hcz27_2, hcz27_3, hcz27_4, hcz27_5, hcz27_6, hcz27_7, hfz27_0, hfz27_1, hfz27_2, hfz27_3, hfz27_4, hfz27_5, hfz27_6, hfz27_7⟩ := blk8_ BK190.out
           go_wp2
           go_meet
           case rel => exact ⟨_, (true), (by first | rfl | (simp; done) | (simp [*]; done)), H', ⟨by have := HJ2.out; have := HJ10.out; have := HJ14.out; have := HJ19.out; first | omega | exact Nat.le_refl _⟩, ⟨by (with_reducible repeat (first | apply Kd.R_alloc | apply Kd.R_drewN | apply Kd.R_drew)); exact HO_3.out⟩, ⟨by (with_reducible repeat (first | refine blk_drewN ?_ _ | refine blk_drew ?_ | refine blk_alloc ?_ _)); exact BK190.out⟩, ⟨by repeat (first | (with_reducible first | exact HB.out | apply below_alloc | apply pw_below_drewN | apply below_drew1 | refine below_set ?_ GE190.out) | exact HB.out)⟩⟩
          ·rw [if_neg c26] at H
           have c26b0 : decide (a0_3 < 0) = false := decide_eq_false c26
           clear c26
           (first | rw [c26b0] | (simp only [i64_w, i32_w]; rw [c26b0]) | skip)
           by_cases c28 : a0_3 > 6
           ·rw [if_pos c28] at H
            have c28b0 : decide (6 < a0_3) = true := decide_eq_true c28
            clear c28
            have H' := Aside0.mk H
            clear H
            obtain ⟨hcz29_0, hcz29_1, hcz29_2, hcz29_3, hcz29_4, hcz29_5, hcz29_6, hcz29_7, hfz29_0, hfz29_1, hfz29_2, hfz29_3, hfz29_4, hfz29_5, hfz29_6, hfz29_7⟩ := blk8_ BK190.out
            go_wp2
            go_meet
            case rel => exact ⟨_, (true), (by first | rfl | (simp; done) | (simp [*]; done)), H', ⟨by have := HJ2.out; have := HJ10.out; have := HJ14.out; have := HJ19.out; first | omega | exact Nat.le_refl _⟩, ⟨by (with_reducible repeat (first | apply Kd.R_alloc | apply Kd.R_drewN | apply Kd.R_drew)); exact HO_3.out⟩, ⟨by (with_reducible repeat (first | refine blk_drewN ?_ _ | refine blk_drew ?_ | refine blk_alloc ?_ _)); exact BK190.out⟩, ⟨by repeat (first | (with_reducible first | exact HB.out | apply below_alloc | apply pw_below_drewN | apply below_drew1 | refine below_set ?_ GE190.out) | exact HB.out)⟩⟩
           ·rw [if_neg c28] at H
            have c28b0 : decide (6 < a0_3) = false := decide_eq_false c28
            clear c28
            by_cases c30 : a0_2 = 0
            ·rw [if_pos c30] at H
             have c30b0 : (a0_2 == 0) = true := beq_iff_eq.mpr c30
             have c30b1 : (a0_2 != 0) = false := bne_eq_false_iff_eq.mpr c30
             clear c30
             have H' := Aside0.mk H
             clear H
             obtain ⟨hcz31_0, hcz31_1, hcz31_2, hcz31_3, hcz31_4, hcz31_5, hcz31_6, hcz31_7, hfz31_0, hfz31_1, hfz31_2, hfz31_3, hfz31_4, hfz31_5, hfz31_6, hfz31_7⟩ := blk8_ BK190.out
             go_wp2
             go_meet
             case rel => exact ⟨_, ((a0_3 != 0)), (by first | rfl | (simp; done) | (simp [*]; done)), H', ⟨by have := HJ2.out; have := HJ10.out; have := HJ14.out; have := HJ19.out; first | omega | exact Nat.le_refl _⟩, ⟨by (with_reducible repeat (first | apply Kd.R_alloc | apply Kd.R_drewN | apply Kd.R_drew)); exact HO_3.out⟩, ⟨by (with_reducible repeat (first | refine blk_drewN ?_ _ | refine blk_drew ?_ | refine blk_alloc ?_ _)); exact BK190.out⟩, ⟨by repeat (first | (with_reducible first | exact HB.out | apply below_alloc | apply pw_below_drewN | apply below_drew1 | refine below_set ?_ GE190.out) | exact HB.out)⟩⟩
            ·rw [if_neg c30] at H
             have c30b0 : (a0_2 == 0) = false := beq_eq_false_iff_ne.mpr c30
             have c30b1 : (a0_2 != 0) = true := bne_iff_ne.mpr c30
             have H' := Aside0.mk H
             clear H
             obtain ⟨hcz32_0, hcz32_1, hcz32_2, hcz32_3, hcz32_4, hcz32_5, hcz32_6, hcz32_7, hfz32_0, hfz32_1, hfz32_2, hfz32_3, hfz32_4, hfz32_5, hfz32_6, hfz32_7⟩ := blk8_ BK190.out
             go_wp2
             go_meet
             case rel => exact ⟨_, (false), (by first | rfl | (simp; done) | (simp [*]; done)), H', ⟨by have := HJ2.out; have := HJ10.out; have := HJ14.out; have := HJ19.out; first | omega | exact Nat.le_refl _⟩, ⟨by (with_reducible repeat (first | apply Kd.R_alloc | apply Kd.R_drewN | apply Kd.R_drew)); exact HO_3.out⟩, ⟨by (with_reducible repeat (first | refine blk_drewN ?_ _ | refine blk_drew ?_ | refine blk_alloc ?_ _)); exact BK190.out⟩, ⟨by repeat (first | (with_reducible first | exact HB.out | apply below_alloc | apply pw_below_drewN | apply below_drew1 | refine below_set ?_ GE190.out) | exact HB.out)⟩⟩
         case rest => as_aux_lemma =>
          clear HC25
          obtain ⟨kq, x52_24, rfl, HA, HJ24, HO_3, BK190, HB⟩ := hcut
          cases kq with
          | zero => exact absurd HA.out (by simp [entrepotref08_Check.j4])
          | succ kj24 =>
           have H := HA.out
           clear HA
           simp only [entrepotref08_Check.j4] at H
           have HC33 := Aside0.mk H
           clear H
           go_upto_if 52 with (fail)
           go_cut [3] (fun v3 wc => ∃ (kq : Nat) (x3_32 : List (S58)), Aside0 (entrepotref08_Check.j5 kq x3_32 a0_0 a0_1 a0_2 a0_3 a0_4 a0_5 l0_6 l0_7 = some r) ∧ Aside0 (kq ≤ kj24) ∧ Aside0 (Kd.R k58 58 wc w.heap.size (fun _ => True) v3 x3_32) ∧ Aside0 (wc.heap[gb190]? = some (.cells #[.string a0_0, .int .i64 a0_1, .int .i64 a0_2, .int .i64 a0_3, .int .i64 a0_4, .int .i64 a0_5, (.slice A0_6 l0_6.length c0_6), (.slice A0_7 l0_7.length c0_7)] 36 (0, 0))) ∧ Aside0 (Below w.heap.size w wc))
           case first => as_aux_lemma =>
            have H := HC33.out
            clear HC33
            by_cases c34 : x52_24 = true
            ·subst c34
             have H1 : (if x3_19.length < 8796093022208 then (entrepotref08_Check.j5 kj24 (x3_19 ++ [(⟨4, 0⟩ : S58)]) a0_0 a0_1 a0_2 a0_3 a0_4 a0_5 l0_6 l0_7) else (none)) = some r := by rw [if_pos rfl] at H; exact H
             clear H
             have H := H1
             clear H1
             by_cases c35 : x3_19.length < 8796093022208
             ·rw [if_pos c35] at H
              have LMc35 := Aside0.mk c35
              clear c35
              obtain ⟨y205, hy205⟩ : ∃ y_ : List (S58), y_ = (x3_19 ++ [(⟨4, 0⟩ : S58)]) := ⟨_, rfl⟩
              replace H : (entrepotref08_Check.j5 kj24 y205 a0_0 a0_1 a0_2 a0_3 a0_4 a0_5 l0_6 l0_7) = some r := by first | (rw [hy205]; with_reducible exact H) | (have H2_ := (Option.bind_some _ _).symm.trans H; rw [hy205]; with_reducible exact H2_) | (have H2_ := (Option.bind_some _ _).symm.trans H; with_reducible exact H2_) | with_reducible exact H | (rw [hy205]; exact H) | exact H
              have Ny205 := Aside0.mk hy205
              clear hy205
              have H' := Aside0.mk H
              clear H
              go_wp2_with (first | ((with_reducible refine gate_builtin (b := .append) (xs := #[.tmp 53, .tmp 55]) rfl ?_); at_builtin; refine Kd.R_append k58 (w0 := w) w.heap.size rfl (.tmp 53) (.tmp 55) 31 58 (.agg #[(.int .i64 0), (.int .i64 0)]) 16 rfl Try.underlying31 info58 rfl (by decide) (by omega) u3 x3_19 (⟨4, 0⟩ : S58) [.int .i64 4, .int .i64 0] (fun _ => True) (fun _ => False) rfl rfl ?aP (fun _ hk => hk.elim) ?aF ?aO ?aB ?aS ?aL ?_; (case aP => exact k58_mkM _ _ _ (⟨4, 0⟩ : S58)); (case aB => exact (by repeat (first | (with_reducible first | exact HB.out | apply below_alloc | apply pw_below_drewN | apply below_drew1 | refine below_set ?_ GE190.out) | exact HB.out))); (case aF => exact (fun _ _ => trivial)); (case aO => exact (by (with_reducible repeat (first | apply Kd.R_alloc | apply Kd.R_drewN | apply Kd.R_drew)); exact HO_3.out)); (case aS => exact (below_size (by repeat (first | (with_reducible first | exact HB.out | apply below_alloc | apply pw_below_drewN | apply below_drew1 | refine below_set ?_ GE190.out) | exact HB.out)))); (case aL => have := LMc35.out; omega); intro v206 w36 ho hb hg hat; rw [← Ny205.out] at ho; have n0_ := Aside0.mk (blk_grown (g := gb190) (o := .cells #[.string a0_0, .int .i64 a0_1, .int .i64 a0_2, .int .i64 a0_3, .int .i64 a0_4, .int .i64 a0_5, .slice A0_6 l0_6.length c0_6, .slice A0_7 l0_7.length c0_7] 36 (0, 0)) (by (with_reducible repeat (first | refine blk_drewN ?_ _ | refine blk_drew ?_ | refine blk_alloc ?_ _)); exact BK190.out) hg (Kd.R_ne HO_3.out BK190.out (by decide))); have n1_ := Aside0.mk (hb); have n2_ := Aside0.mk (ho); clear BK190; clear HB; clear HO_3; have BK190 := n0_; have HB := n1_; have HO207 := n2_; clear n0_ n1_ n2_; clear ho hb hg hat))
              go_meet
              case rel => exact ⟨_, (y205), H', ⟨by have := HJ2.out; have := HJ10.out; have := HJ14.out; have := HJ19.out; have := HJ24.out; first | omega | exact Nat.le_refl _⟩, ⟨by (with_reducible repeat (first | apply Kd.R_alloc | apply Kd.R_drewN | apply Kd.R_drew)); exact HO207.out⟩, ⟨by (with_reducible repeat (first | refine blk_drewN ?_ _ | refine blk_drew ?_ | refine blk_alloc ?_ _)); exact BK190.out⟩, ⟨by repeat (first | (with_reducible first | exact HB.out | apply below_alloc | apply pw_below_drewN | apply below_drew1 | refine below_set ?_ GE190.out) | exact HB.out)⟩⟩
             ·rw [if_neg c35] at H
              exact absurd H (by simp)
            ·replace c34 := Bool.eq_false_iff.mpr c34
             subst c34
             have H1 : (entrepotref08_Check.j5 kj24 x3_19 a0_0 a0_1 a0_2 a0_3 a0_4 a0_5 l0_6 l0_7) = some r := by rw [if_neg (show ¬ (false = true) by decide)] at H; exact H
             clear H
             have H := H1
             clear H1
             have H' := Aside0.mk H
             clear H
             go_wp2
             go_meet
             case rel => exact ⟨_, (x3_19), H', ⟨by have := HJ2.out; have := HJ10.out; have := HJ14.out; have := HJ19.out; have := HJ24.out; first | omega | exact Nat.le_refl _⟩, ⟨by (with_reducible repeat (first | apply Kd.R_alloc | apply Kd.R_drewN | apply Kd.R_drew)); exact HO_3.out⟩, ⟨by (with_reducible repeat (first | refine blk_drewN ?_ _ | refine blk_drew ?_ | refine blk_alloc ?_ _)); exact BK190.out⟩, ⟨by repeat (first | (with_reducible first | exact HB.out | apply below_alloc | apply pw_below_drewN | apply below_drew1 | refine below_set ?_ GE190.out) | exact HB.out)⟩⟩
           case rest => as_aux_lemma =>
            clear HC33
            obtain ⟨kq, x3_32, HA, HJ32, HO_3, BK190, HB⟩ := hcut
            cases kq with
            | zero => exact absurd HA.out (by simp [entrepotref08_Check.j5])
            | succ kj32 =>
             have H := HA.out
             clear HA
             simp only [entrepotref08_Check.j5] at H
             have HC37 := Aside0.mk H
             clear H
             go_upto_region 10 with (fail)
             go_cut [79] (fun v79 wc => ∃ (kq : Nat) (x79_36 : Bool), v79 = .bool x79_36 ∧ Aside0 (entrepotref08_Check.j6 kq x3_32 x79_36 a0_0 a0_1 a0_2 a0_3 a0_4 a0_5 l0_6 l0_7 = some r) ∧ Aside0 (kq ≤ kj32) ∧ Aside0 (Kd.R k58 58 wc w.heap.size (fun _ => True) u3 x3_32) ∧ Aside0 (wc.heap[gb190]? = some (.cells #[.string a0_0, .int .i64 a0_1, .int .i64 a0_2, .int .i64 a0_3, .int .i64 a0_4, .int .i64 a0_5, (.slice A0_6 l0_6.length c0_6), (.slice A0_7 l0_7.length c0_7)] 36 (0, 0))) ∧ Aside0 (Below w.heap.size w wc))
             case first => as_aux_lemma =>
              have H := HC37.out
              clear HC37
              by_cases c38 : a0_1 = 1
              ·rw [if_pos c38] at H
               have c38b0 : (a0_1 == 1) = true := beq_iff_eq.mpr c38
               have c38b1 : (a0_1 != 1) = false := bne_eq_false_iff_eq.mpr c38
               clear c38
               (first | rw [c38b0] | (simp only [i64_w, i32_w]; rw [c38b0]) | skip)
               by_cases c39 : a0_4 = 0
               ·rw [if_pos c39] at H
                have c39b0 : (a0_4 == 0) = true := beq_iff_eq.mpr c39
                have c39b1 : (a0_4 != 0) = false := bne_eq_false_iff_eq.mpr c39
                clear c39
                have H' := Aside0.mk H
                clear H
                obtain ⟨hcz40_0, hcz40_1, hcz40_2, hcz40_3, hcz40_4, hcz40_5, hcz40_6, hcz40_7, hfz40_0, hfz40_1, hfz40_2, hfz40_3, hfz40_4, hfz40_5, hfz40_6, hfz40_7⟩ := blk8_ BK190.out
                go_wp2
                go_meet
                case rel => exact ⟨_, (false), (by first | rfl | (simp; done) | (simp [*]; done)), H', ⟨by have := HJ2.out; have := HJ10.out; have := HJ14.out; have := HJ19.out; have := HJ24.out; have := HJ32.out; first | omega | exact Nat.le_refl _⟩, ⟨by (with_reducible repeat (first | apply Kd.R_alloc | apply Kd.R_drewN | apply Kd.R_drew)); exact HO_3.out⟩, ⟨by (with_reducible repeat (first | refine blk_drewN ?_ _ | refine blk_drew ?_ | refine blk_alloc ?_ _)); exact BK190.out⟩, ⟨by repeat (first | (with_reducible first | exact HB.out | apply below_alloc | apply pw_below_drewN | apply below_drew1 | refine below_set ?_ GE190.out) | exact HB.out)⟩⟩
               ·rw [if_neg c39] at H
                have c39b0 : (a0_4 == 0) = false := beq_eq_false_iff_ne.mpr c39
                have c39b1 : (a0_4 != 0) = true := bne_iff_ne.mpr c39
                have H' := Aside0.mk H
                clear H
                obtain ⟨hcz41_0, hcz41_1, hcz41_2, hcz41_3, hcz41_4, hcz41_5, hcz41_6, hcz41_7, hfz41_0, hfz41_1, hfz41_2, hfz41_3, hfz41_4, hfz41_5, hfz41_6, hfz41_7⟩ := blk8_ BK190.out
                go_wp2
                go_meet
                case rel => exact ⟨_, (true), (by first | rfl | (simp; done) | (simp [*]; done)), H', ⟨by have := HJ2.out; have := HJ10.out; have := HJ14.out; have := HJ19.out; have := HJ24.out; have := HJ32.out; first | omega | exact Nat.le_refl _⟩, ⟨by (with_reducible repeat (first | apply Kd.R_alloc | apply Kd.R_drewN | apply Kd.R_drew)); exact HO_3.out⟩, ⟨by (with_reducible repeat (first | refine blk_drewN ?_ _ | refine blk_drew ?_ | refine blk_alloc ?_ _)); exact BK190.out⟩, ⟨by repeat (first | (with_reducible first | exact HB.out | apply below_alloc | apply pw_below_drewN | apply below_drew1 | refine below_set ?_ GE190.out) | exact HB.out)⟩⟩
              ·rw [if_neg c38] at H
               have c38b0 : (a0_1 == 1) = false := beq_eq_false_iff_ne.mpr c38
               have c38b1 : (a0_1 != 1) = true := bne_iff_ne.mpr c38
               (first | rw [c38b0] | (simp only [i64_w, i32_w]; rw [c38b0]) | skip)
               by_cases c42 : a0_4 < 1
               ·rw [if_pos c42] at H
                have c42b0 : decide (a0_4 < 1) = true := decide_eq_true c42
                clear c42
                have H' := Aside0.mk H
                clear H
                obtain ⟨hcz43_0, hcz43_1, hcz43_2, hcz43_3, hcz43_4, hcz43_5, hcz43_6, hcz43_7, hfz43_0, hfz43_1, hfz43_2, hfz43_3, hfz43_4, hfz43_5, hfz43_6, hfz43_7⟩ := blk8_ BK190.out
                go_wp2
                go_meet
                case rel => exact ⟨_, (true), (by first | rfl | (simp; done) | (simp [*]; done)), H', ⟨by have := HJ2.out; have := HJ10.out; have := HJ14.out; have := HJ19.out; have := HJ24.out; have := HJ32.out; first | omega | exact Nat.le_refl _⟩, ⟨by (with_reducible repeat (first | apply Kd.R_alloc | apply Kd.R_drewN | apply Kd.R_drew)); exact HO_3.out⟩, ⟨by (with_reducible repeat (first | refine blk_drewN ?_ _ | refine blk_drew ?_ | refine blk_alloc ?_ _)); exact BK190.out⟩, ⟨by repeat (first | (with_reducible first | exact HB.out | apply below_alloc | apply pw_below_drewN | apply below_drew1 | refine below_set ?_ GE190.out) | exact HB.out)⟩⟩
               ·rw [if_neg c42] at H
                have c42b0 : decide (a0_4 < 1) = false := decide_eq_false c42
                clear c42
                have H' := Aside0.mk H
                clear H
                obtain ⟨hcz44_0, hcz44_1, hcz44_2, hcz44_3, hcz44_4, hcz44_5, hcz44_6, hcz44_7, hfz44_0, hfz44_1, hfz44_2, hfz44_3, hfz44_4, hfz44_5, hfz44_6, hfz44_7⟩ := blk8_ BK190.out
                go_wp2
                go_meet
                case rel => exact ⟨_, (decide (a0_4 > 100000000)), (by first | rfl | (simp; done) | (simp [*]; done)), H', ⟨by have := HJ2.out; have := HJ10.out; have := HJ14.out; have := HJ19.out; have := HJ24.out; have := HJ32.out; first | omega | exact Nat.le_refl _⟩, ⟨by (with_reducible repeat (first | apply Kd.R_alloc | apply Kd.R_drewN | apply Kd.R_drew)); exact HO_3.out⟩, ⟨by (with_reducible repeat (first | refine blk_drewN ?_ _ | refine blk_drew ?_ | refine blk_alloc ?_ _)); exact BK190.out⟩, ⟨by repeat (first | (with_reducible first | exact HB.out | apply below_alloc | apply pw_below_drewN | apply below_drew1 | refine below_set ?_ GE190.out) | exact HB.out)⟩⟩
             case rest => as_aux_lemma =>
              clear HC37
              obtain ⟨kq, x79_36, rfl, HA, HJ36, HO_3, BK190, HB⟩ := hcut
              cases kq with
              | zero => exact absurd HA.out (by simp [entrepotref08_Check.j6])
              | succ kj36 =>
               have H := HA.out
               clear HA
               simp only [entrepotref08_Check.j6] at H
               have HC45 := Aside0.mk H
               clear H
               go_upto_if 79 with (fail)
               go_cut [3] (fun v3 wc => ∃ (kq : Nat) (x3_44 : List (S58)), Aside0 (entrepotref08_Check.j7 kq x3_44 a0_0 a0_1 a0_2 a0_3 a0_4 a0_5 l0_6 l0_7 = some r) ∧ Aside0 (kq ≤ kj36) ∧ Aside0 (Kd.R k58 58 wc w.heap.size (fun _ => True) v3 x3_44) ∧ Aside0 (wc.heap[gb190]? = some (.cells #[.string a0_0, .int .i64 a0_1, .int .i64 a0_2, .int .i64 a0_3, .int .i64 a0_4, .int .i64 a0_5, (.slice A0_6 l0_6.length c0_6), (.slice A0_7 l0_7.length c0_7)] 36 (0, 0))) ∧ Aside0 (Below w.heap.size w wc))
               case first => as_aux_lemma =>
                have H := HC45.out
                clear HC45
                by_cases c46 : x79_36 = true
                ·subst c46
                 have H1 : (if x3_32.length < 8796093022208 then (entrepotref08_Check.j7 kj36 (x3_32 ++ [(⟨5, 0⟩ : S58)]) a0_0 a0_1 a0_2 a0_3 a0_4 a0_5 l0_6 l0_7) else (none)) = some r := by rw [if_pos rfl] at H; exact H
                 clear H
                 have H := H1
                 clear H1
                 by_cases c47 : x3_32.length < 8796093022208
                 ·rw [if_pos c47] at H
                  have LMc47 := Aside0.mk c47
                  clear c47
                  obtain ⟨y208, hy208⟩ : ∃ y_ : List (S58), y_ = (x3_32 ++ [(⟨5, 0⟩ : S58)]) := ⟨_, rfl⟩
                  replace H : (entrepotref08_Check.j7 kj36 y208 a0_0 a0_1 a0_2 a0_3 a0_4 a0_5 l0_6 l0_7) = some r := by first | (rw [hy208]; with_reducible exact H) | (have H2_ := (Option.bind_some _ _).symm.trans H; rw [hy208]; with_reducible exact H2_) | (have H2_ := (Option.bind_some _ _).symm.trans H; with_reducible exact H2_) | with_reducible exact H | (rw [hy208]; exact H) | exact H
                  have Ny208 := Aside0.mk hy208
                  clear hy208
                  have H' := Aside0.mk H
                  clear H
                  go_wp2_with (first | ((with_reducible refine gate_builtin (b := .append) (xs := #[.tmp 80, .tmp 82]) rfl ?_); at_builtin; refine Kd.R_append k58 (w0 := w) w.heap.size rfl (.tmp 80) (.tmp 82) 31 58 (.agg #[(.int .i64 0), (.int .i64 0)]) 16 rfl Try.underlying31 info58 rfl (by decide) (by omega) u3 x3_32 (⟨5, 0⟩ : S58) [.int .i64 5, .int .i64 0] (fun _ => True) (fun _ => False) rfl rfl ?aP (fun _ hk => hk.elim) ?aF ?aO ?aB ?aS ?aL ?_; (case aP => exact k58_mkM _ _ _ (⟨5, 0⟩ : S58)); (case aB => exact (by repeat (first | (with_reducible first | exact HB.out | apply below_alloc | apply pw_below_drewN | apply below_drew1 | refine below_set ?_ GE190.out) | exact HB.out))); (case aF => exact (fun _ _ => trivial)); (case aO => exact (by (with_reducible repeat (first | apply Kd.R_alloc | apply Kd.R_drewN | apply Kd.R_drew)); exact HO_3.out)); (case aS => exact (below_size (by repeat (first | (with_reducible first | exact HB.out | apply below_alloc | apply pw_below_drewN | apply below_drew1 | refine below_set ?_ GE190.out) | exact HB.out)))); (case aL => have := LMc47.out; omega); intro v209 w48 ho hb hg hat; rw [← Ny208.out] at ho; have n0_ := Aside0.mk (blk_grown (g := gb190) (o := .cells #[.string a0_0, .int .i64 a0_1, .int .i64 a0_2, .int .i64 a0_3, .int .i64 a0_4, .int .i64 a0_5, .slice A0_6 l0_6.length c0_6, .slice A0_7 l0_7.length c0_7] 36 (0, 0)) (by (with_reducible repeat (first | refine blk_drewN ?_ _ | refine blk_drew ?_ | refine blk_alloc ?_ _)); exact BK190.out) hg (Kd.R_ne HO_3.out BK190.out (by decide))); have n1_ := Aside0.mk (hb); have n2_ := Aside0.mk (ho); clear BK190; clear HB; clear HO_3; have BK190 := n0_; have HB := n1_; have HO210 := n2_; clear n0_ n1_ n2_; clear ho hb hg hat))
                  go_meet
                  case rel => exact ⟨_, (y208), H', ⟨by have := HJ2.out; have := HJ10.out; have := HJ14.out; have := HJ19.out; have := HJ24.out; have := HJ32.out; have := HJ36.out; first | omega | exact Nat.le_refl _⟩, ⟨by (with_reducible repeat (first | apply Kd.R_alloc | apply Kd.R_drewN | apply Kd.R_drew)); exact HO210.out⟩, ⟨by (with_reducible repeat (first | refine blk_drewN ?_ _ | refine blk_drew ?_ | refine blk_alloc ?_ _)); exact BK190.out⟩, ⟨by repeat (first | (with_reducible first | exact HB.out | apply below_alloc | apply pw_below_drewN | apply below_drew1 | refine below_set ?_ GE190.out) | exact HB.out)⟩⟩
                 ·rw [if_neg c47] at H
                  exact absurd H (by simp)
                ·replace c46 := Bool.eq_false_iff.mpr c46
                 subst c46
                 have H1 : (entrepotref08_Check.j7 kj36 x3_32 a0_0 a0_1 a0_2 a0_3 a0_4 a0_5 l0_6 l0_7) = some r := by rw [if_neg (show ¬ (false = true) by decide)] at H; exact H
                 clear H
                 have H := H1
                 clear H1
                 have H' := Aside0.mk H
                 clear H
                 go_wp2
                 go_meet
                 case rel => exact ⟨_, (x3_32), H', ⟨by have := HJ2.out; have := HJ10.out; have := HJ14.out; have := HJ19.out; have := HJ24.out; have := HJ32.out; have := HJ36.out; first | omega | exact Nat.le_refl _⟩, ⟨by (with_reducible repeat (first | apply Kd.R_alloc | apply Kd.R_drewN | apply Kd.R_drew)); exact HO_3.out⟩, ⟨by (with_reducible repeat (first | refine blk_drewN ?_ _ | refine blk_drew ?_ | refine blk_alloc ?_ _)); exact BK190.out⟩, ⟨by repeat (first | (with_reducible first | exact HB.out | apply below_alloc | apply pw_below_drewN | apply below_drew1 | refine below_set ?_ GE190.out) | exact HB.out)⟩⟩
               case rest => as_aux_lemma =>
                clear HC45
                obtain ⟨kq, x3_44, HA, HJ44, HO_3, BK190, HB⟩ := hcut
                cases kq with
                | zero => exact absurd HA.out (by simp [entrepotref08_Check.j7])
                | succ kj44 =>
                 have H := HA.out
                 clear HA
                 simp only [entrepotref08_Check.j7] at H
                 have HC49 := Aside0.mk H
                 clear H
                 go_upto_region 12 with (fail)
                 go_cut [106] (fun v106 wc => ∃ (kq : Nat) (x106_48 : Bool), v106 = .bool x106_48 ∧ Aside0 (entrepotref08_Check.j8 kq x3_44 x106_48 a0_0 a0_1 a0_2 a0_3 a0_4 a0_5 l0_6 l0_7 = some r) ∧ Aside0 (kq ≤ kj44) ∧ Aside0 (Kd.R k58 58 wc w.heap.size (fun _ => True) u3 x3_44) ∧ Aside0 (wc.heap[gb190]? = some (.cells #[.string a0_0, .int .i64 a0_1, .int .i64 a0_2, .int .i64 a0_3, .int .i64 a0_4, .int .i64 a0_5, (.slice A0_6 l0_6.length c0_6), (.slice A0_7 l0_7.length c0_7)] 36 (0, 0))) ∧ Aside0 (Below w.heap.size w wc))
                 case first => as_aux_lemma =>
                  have H := HC49.out
                  clear HC49
                  by_cases c50 : a0_1 = 1
                  ·rw [if_pos c50] at H
                   have c50b0 : (a0_1 == 1) = true := beq_iff_eq.mpr c50
                   have c50b1 : (a0_1 != 1) = false := bne_eq_false_iff_eq.mpr c50
                   clear c50
                   (first | rw [c50b0] | (simp only [i64_w, i32_w]; rw [c50b0]) | skip)
                   by_cases c51 : a0_5 = 0
                   ·rw [if_pos c51] at H
                    have c51b0 : (a0_5 == 0) = true := beq_iff_eq.mpr c51
                    have c51b1 : (a0_5 != 0) = false := bne_eq_false_iff_eq.mpr c51
                    clear c51
                    have H' := Aside0.mk H
                    clear H
                    obtain ⟨hcz52_0, hcz52_1, hcz52_2, hcz52_3, hcz52_4, hcz52_5, hcz52_6, hcz52_7, hfz52_0, hfz52_1, hfz52_2, hfz52_3, hfz52_4, hfz52_5, hfz52_6, hfz52_7⟩ := blk8_ BK190.out
                    go_wp2
                    go_meet
                    case rel => exact ⟨_, (false), (by first | rfl | (simp; done) | (simp [*]; done)), H', ⟨by have := HJ2.out; have := HJ10.out; have := HJ14.out; have := HJ19.out; have := HJ24.out; have := HJ32.out; have := HJ36.out; have := HJ44.out; first | omega | exact Nat.le_refl _⟩, ⟨by (with_reducible repeat (first | apply Kd.R_alloc | apply Kd.R_drewN | apply Kd.R_drew)); exact HO_3.out⟩, ⟨by (with_reducible repeat (first | refine blk_drewN ?_ _ | refine blk_drew ?_ | refine blk_alloc ?_ _)); exact BK190.out⟩, ⟨by repeat (first | (with_reducible first | exact HB.out | apply below_alloc | apply pw_below_drewN | apply below_drew1 | refine below_set ?_ GE190.out) | exact HB.out)⟩⟩
                   ·rw [if_neg c51] at H
                    have c51b0 : (a0_5 == 0) = false := beq_eq_false_iff_ne.mpr c51
                    have c51b1 : (a0_5 != 0) = true := bne_iff_ne.mpr c51
                    have H' := Aside0.mk H
                    clear H
                    obtain ⟨hcz53_0, hcz53_1, hcz53_2, hcz53_3, hcz53_4, hcz53_5, hcz53_6, hcz53_7, hfz53_0, hfz53_1, hfz53_2, hfz53_3, hfz53_4, hfz53_5, hfz53_6, hfz53_7⟩ := blk8_ BK190.out
                    go_wp2
                    go_meet
                    case rel => exact ⟨_, (true), (by first | rfl | (simp; done) | (simp [*]; done)), H', ⟨by have := HJ2.out; have := HJ10.out; have := HJ14.out; have := HJ19.out; have := HJ24.out; have := HJ32.out; have := HJ36.out; have := HJ44.out; first | omega | exact Nat.le_refl _⟩, ⟨by (with_reducible repeat (first | apply Kd.R_alloc | apply Kd.R_drewN | apply Kd.R_drew)); exact HO_3.out⟩, ⟨by (with_reducible repeat (first | refine blk_drewN ?_ _ | refine blk_drew ?_ | refine blk_alloc ?_ _)); exact BK190.out⟩, ⟨by repeat (first | (with_reducible first | exact HB.out | apply below_alloc | apply pw_below_drewN | apply below_drew1 | refine below_set ?_ GE190.out) | exact HB.out)⟩⟩
                  ·rw [if_neg c50] at H
                   have c50b0 : (a0_1 == 1) = false := beq_eq_false_iff_ne.mpr c50
                   have c50b1 : (a0_1 != 1) = true := bne_iff_ne.mpr c50
                   (first | rw [c50b0] | (simp only [i64_w, i32_w]; rw [c50b0]) | skip)
                   by_cases c54 : a0_5 < 0
                   ·rw [if_pos c54] at H
                    have c54b0 : decide (a0_5 < 0) = true := decide_eq_true c54
                    clear c54
                    have H' := Aside0.mk H
                    clear H
                    obtain ⟨hcz55_0, hcz55_1, hcz55_2, hcz55_3, hcz55_4, hcz55_5, hcz55_6, hcz55_7, hfz55_0, hfz55_1, hfz55_2, hfz55_3, hfz55_4, hfz55_5, hfz55_6, hfz55_7⟩ := blk8_ BK190.out
                    go_wp2
                    go_meet
                    case rel => exact ⟨_, (true), (by first | rfl | (simp; done) | (simp [*]; done)), H', ⟨by have := HJ2.out; have := HJ10.out; have := HJ14.out; have := HJ19.out; have := HJ24.out; have := HJ32.out; have := HJ36.out; have := HJ44.out; first | omega | exact Nat.le_refl _⟩, ⟨by (with_reducible repeat (first | apply Kd.R_alloc | apply Kd.R_drewN | apply Kd.R_drew)); exact HO_3.out⟩, ⟨by (with_reducible repeat (first | refine blk_drewN ?_ _ | refine blk_drew ?_ | refine blk_alloc ?_ _)); exact BK190.out⟩, ⟨by repeat (first | (with_reducible first | exact HB.out | apply below_alloc | apply pw_below_drewN | apply below_drew1 | refine below_set ?_ GE190.out) | exact HB.out)⟩⟩
                   ·rw [if_neg c54] at H
                    have c54b0 : decide (a0_5 < 0) = false := decide_eq_false c54
                    clear c54
                    have H' := Aside0.mk H
                    clear H
                    obtain ⟨hcz56_0, hcz56_1, hcz56_2, hcz56_3, hcz56_4, hcz56_5, hcz56_6, hcz56_7, hfz56_0, hfz56_1, hfz56_2, hfz56_3, hfz56_4, hfz56_5, hfz56_6, hfz56_7⟩ := blk8_ BK190.out
                    go_wp2
                    go_meet
                    case rel => exact ⟨_, (decide (a0_5 > 400)), (by first | rfl | (simp; done) | (simp [*]; done)), H', ⟨by have := HJ2.out; have := HJ10.out; have := HJ14.out; have := HJ19.out; have := HJ24.out; have := HJ32.out; have := HJ36.out; have := HJ44.out; first | omega | exact Nat.le_refl _⟩, ⟨by (with_reducible repeat (first | apply Kd.R_alloc | apply Kd.R_drewN | apply Kd.R_drew)); exact HO_3.out⟩, ⟨by (with_reducible repeat (first | refine blk_drewN ?_ _ | refine blk_drew ?_ | refine blk_alloc ?_ _)); exact BK190.out⟩, ⟨by repeat (first | (with_reducible first | exact HB.out | apply below_alloc | apply pw_below_drewN | apply below_drew1 | refine below_set ?_ GE190.out) | exact HB.out)⟩⟩
                 case rest => as_aux_lemma =>
                  clear HC49
                  obtain ⟨kq, x106_48, rfl, HA, HJ48, HO_3, BK190, HB⟩ := hcut
                  cases kq with
                  | zero => exact absurd HA.out (by simp [entrepotref08_Check.j8])
                  | succ kj48 =>
                   have H := HA.out
                   clear HA
                   simp only [entrepotref08_Check.j8] at H
                   have HC57 := Aside0.mk H
                   clear H
                   go_upto_if 106 with (fail)
                   go_cut [3] (fun v3 wc => ∃ (kq : Nat) (x3_56 : List (S58)), Aside0 (entrepotref08_Check.j9 kq x3_56 a0_0 a0_1 a0_2 a0_3 a0_4 a0_5 l0_6 l0_7 = some r) ∧ Aside0 (kq ≤ kj48) ∧ Aside0 (Kd.R k58 58 wc w.heap.size (fun _ => True) v3 x3_56) ∧ Aside0 (wc.heap[gb190]? = some (.cells #[.string a0_0, .int .i64 a0_1, .int .i64 a0_2, .int .i64 a0_3, .int .i64 a0_4, .int .i64 a0_5, (.slice A0_6 l0_6.length c0_6), (.slice A0_7 l0_7.length c0_7)] 36 (0, 0))) ∧ Aside0 (Below w.heap.size w wc))
                   case first => as_aux_lemma =>
                    have H := HC57.out
                    clear HC57
                    by_cases c58 : x106_48 = true
                    ·subst c58
                     have H1 : (if x3_44.length < 8796093022208 then (entrepotref08_Check.j9 kj48 (x3_44 ++ [(⟨6, 0⟩ : S58)]) a0_0 a0_1 a0_2 a0_3 a0_4 a0_5 l0_6 l0_7) else (none)) = some r := by rw [if_pos rfl] at H; exact H
                     clear H
                     have H := H1
                     clear H1
                     by_cases c59 : x3_44.length < 8796093022208
                     ·rw [if_pos c59] at H
                      have LMc59 := Aside0.mk c59
                      clear c59
                      obtain ⟨y211, hy211⟩ : ∃ y_ : List (S58), y_ = (x3_44 ++ [(⟨6, 0⟩ : S58)]) := ⟨_, rfl⟩
                      replace H : (entrepotref08_Check.j9 kj48 y211 a0_0 a0_1 a0_2 a0_3 a0_4 a0_5 l0_6 l0_7) = some r := by first | (rw [hy211]; with_reducible exact H) | (have H2_ := (Option.bind_some _ _).symm.trans H; rw [hy211]; with_reducible exact H2_) | (have H2_ := (Option.bind_some _ _).symm.trans H; with_reducible exact H2_) | with_reducible exact H | (rw [hy211]; exact H) | exact H
                      have Ny211 := Aside0.mk hy211
                      clear hy211
                      have H' := Aside0.mk H
                      clear H
                      go_wp2_with (first | ((with_reducible refine gate_builtin (b := .append) (xs := #[.tmp 107, .tmp 109]) rfl ?_); at_builtin; refine Kd.R_append k58 (w0 := w) w.heap.size rfl (.tmp 107) (.tmp 109) 31 58 (.agg #[(.int .i64 0), (.int .i64 0)]) 16 rfl Try.underlying31 info58 rfl (by decide) (by omega) u3 x3_44 (⟨6, 0⟩ : S58) [.int .i64 6, .int .i64 0] (fun _ => True) (fun _ => False) rfl rfl ?aP (fun _ hk => hk.elim) ?aF ?aO ?aB ?aS ?aL ?_; (case aP => exact k58_mkM _ _ _ (⟨6, 0⟩ : S58)); (case aB => exact (by repeat (first | (with_reducible first | exact HB.out | apply below_alloc | apply pw_below_drewN | apply below_drew1 | refine below_set ?_ GE190.out) | exact HB.out))); (case aF => exact (fun _ _ => trivial)); (case aO => exact (by (with_reducible repeat (first | apply Kd.R_alloc | apply Kd.R_drewN | apply Kd.R_drew)); exact HO_3.out)); (case aS => exact (below_size (by repeat (first | (with_reducible first | exact HB.out | apply below_alloc | apply pw_below_drewN | apply below_drew1 | refine below_set ?_ GE190.out) | exact HB.out)))); (case aL => have := LMc59.out; omega); intro v212 w60 ho hb hg hat; rw [← Ny211.out] at ho; have n0_ := Aside0.mk (blk_grown (g := gb190) (o := .cells #[.string a0_0, .int .i64 a0_1, .int .i64 a0_2, .int .i64 a0_3, .int .i64 a0_4, .int .i64 a0_5, .slice A0_6 l0_6.length c0_6, .slice A0_7 l0_7.length c0_7] 36 (0, 0)) (by (with_reducible repeat (first | refine blk_drewN ?_ _ | refine blk_drew ?_ | refine blk_alloc ?_ _)); exact BK190.out) hg (Kd.R_ne HO_3.out BK190.out (by decide))); have n1_ := Aside0.mk (hb); have n2_ := Aside0.mk (ho); clear BK190; clear HB; clear HO_3; have BK190 := n0_; have HB := n1_; have HO213 := n2_; clear n0_ n1_ n2_; clear ho hb hg hat))
                      go_meet
                      case rel => exact ⟨_, (y211), H', ⟨by have := HJ2.out; have := HJ10.out; have := HJ14.out; have := HJ19.out; have := HJ24.out; have := HJ32.out; have := HJ36.out; have := HJ44.out; have := HJ48.out; first | omega | exact Nat.le_refl _⟩, ⟨by (with_reducible repeat (first | apply Kd.R_alloc | apply Kd.R_drewN | apply Kd.R_drew)); exact HO213.out⟩, ⟨by (with_reducible repeat (first | refine blk_drewN ?_ _ | refine blk_drew ?_ | refine blk_alloc ?_ _)); exact BK190.out⟩, ⟨by repeat (first | (with_reducible first | exact HB.out | apply below_alloc | apply pw_below_drewN | apply below_drew1 | refine below_set ?_ GE190.out) | exact HB.out)⟩⟩
                     ·rw [if_neg c59] at H
                      exact absurd H (by simp)
                    ·replace c58 := Bool.eq_false_iff.mpr c58
                     subst c58
                     have H1 : (entrepotref08_Check.j9 kj48 x3_44 a0_0 a0_1 a0_2 a0_3 a0_4 a0_5 l0_6 l0_7) = some r := by rw [if_neg (show ¬ (false = true) by decide)] at H; exact H
                     clear H
                     have H := H1
                     clear H1
                     have H' := Aside0.mk H
                     clear H
                     go_wp2
                     go_meet
                     case rel => exact ⟨_, (x3_44), H', ⟨by have := HJ2.out; have := HJ10.out; have := HJ14.out; have := HJ19.out; have := HJ24.out; have := HJ32.out; have := HJ36.out; have := HJ44.out; have := HJ48.out; first | omega | exact Nat.le_refl _⟩, ⟨by (with_reducible repeat (first | apply Kd.R_alloc | apply Kd.R_drewN | apply Kd.R_drew)); exact HO_3.out⟩, ⟨by (with_reducible repeat (first | refine blk_drewN ?_ _ | refine blk_drew ?_ | refine blk_alloc ?_ _)); exact BK190.out⟩, ⟨by repeat (first | (with_reducible first | exact HB.out | apply below_alloc | apply pw_below_drewN | apply below_drew1 | refine below_set ?_ GE190.out) | exact HB.out)⟩⟩
                   case rest => as_aux_lemma =>
                    clear HC57
                    obtain ⟨kq, x3_56, HA, HJ56, HO_3, BK190, HB⟩ := hcut
                    cases kq with
                    | zero => exact absurd HA.out (by simp [entrepotref08_Check.j9])
                    | succ kj56 =>
                     have H := HA.out
                     clear HA
                     simp only [entrepotref08_Check.j9] at H
                     have HC61 := Aside0.mk H
                     clear H
                     obtain ⟨hcz62_0, hcz62_1, hcz62_2, hcz62_3, hcz62_4, hcz62_5, hcz62_6, hcz62_7, hfz62_0, hfz62_1, hfz62_2, hfz62_3, hfz62_4, hfz62_5, hfz62_6, hfz62_7⟩ := blk8_ BK190.out
                     go_upto_region 15 with (fail)
                     go_cut [119] (fun v119 wc => ∃ (kq : Nat) (x119_60 : Bool), v119 = .bool x119_60 ∧ Aside0 (entrepotref08_Check.j10 kq x3_56 (l0_6.length : Int) x119_60 a0_0 a0_1 a0_2 a0_3 a0_4 a0_5 l0_6 l0_7 = some r) ∧ Aside0 (kq ≤ kj56) ∧ Aside0 (Kd.R k58 58 wc w.heap.size (fun _ => True) u3 x3_56) ∧ Aside0 (wc.heap[gb190]? = some (.cells #[.string a0_0, .int .i64 a0_1, .int .i64 a0_2, .int .i64 a0_3, .int .i64 a0_4, .int .i64 a0_5, (.slice A0_6 l0_6.length c0_6), (.slice A0_7 l0_7.length c0_7)] 36 (0, 0))) ∧ Aside0 (Below w.heap.size w wc))
                     case first => as_aux_lemma =>
                      have H := HC61.out
                      clear HC61
                      by_cases c63 : (l0_6.length : Int) < 1
                      ·rw [if_pos c63] at H
                       have c63b0 : decide ((l0_6.length : Int) < 1) = true := decide_eq_true c63
                       have c63b1 : decide (l0_6.length < 1) = true := decide_eq_true (by omega)
                       clear c63
                       (first | rw [c63b0] | (simp only [i64_w, i32_w]; rw [c63b0]) | skip)
                       have H' := Aside0.mk H
                       clear H
                       go_wp2
                       go_meet
                       case rel => exact ⟨_, (true), (by first | rfl | (simp; done) | (simp [*]; done)), H', ⟨by have := HJ2.out; have := HJ10.out; have := HJ14.out; have := HJ19.out; have := HJ24.out; have := HJ32.out; have := HJ36.out; have := HJ44.out; have := HJ48.out; have := HJ56.out; first | omega | exact Nat.le_refl _⟩, ⟨by (with_reducible repeat (first | apply Kd.R_alloc | apply Kd.R_drewN | apply Kd.R_drew)); exact HO_3.out⟩, ⟨by (with_reducible repeat (first | refine blk_drewN ?_ _ | refine blk_drew ?_ | refine blk_alloc ?_ _)); exact BK190.out⟩, ⟨by repeat (first | (with_reducible first | exact HB.out | apply below_alloc | apply pw_below_drewN | apply below_drew1 | refine below_set ?_ GE190.out) | exact HB.out)⟩⟩
                      ·rw [if_neg c63] at H
                       have c63b0 : decide ((l0_6.length : Int) < 1) = false := decide_eq_false c63
                       have c63b1 : decide (l0_6.length < 1) = false := decide_eq_false (by omega)
                       clear c63
                       (first | rw [c63b0] | (simp only [i64_w, i32_w]; rw [c63b0]) | skip)
                       have H' := Aside0.mk H
                       clear H
                       go_wp2
                       go_meet
                       case rel => exact ⟨_, (decide ((l0_6.length : Int) > 400)), (by first | rfl | (simp; done) | (simp [*]; done)), H', ⟨by have := HJ2.out; have := HJ10.out; have := HJ14.out; have := HJ19.out; have := HJ24.out; have := HJ32.out; have := HJ36.out; have := HJ44.out; have := HJ48.out; have := HJ56.out; first | omega | exact Nat.le_refl _⟩, ⟨by (with_reducible repeat (first | apply Kd.R_alloc | apply Kd.R_drewN | apply Kd.R_drew)); exact HO_3.out⟩, ⟨by (with_reducible repeat (first | refine blk_drewN ?_ _ | refine blk_drew ?_ | refine blk_alloc ?_ _)); exact BK190.out⟩, ⟨by repeat (first | (with_reducible first | exact HB.out | apply below_alloc | apply pw_below_drewN | apply below_drew1 | refine below_set ?_ GE190.out) | exact HB.out)⟩⟩
                     case rest => as_aux_lemma =>
                      clear HC61
                      (try clear hcz62_0); (try clear hcz62_1); (try clear hcz62_2); (try clear hcz62_3); (try clear hcz62_4); (try clear hcz62_5); (try clear hcz62_6); (try clear hcz62_7); (try clear hfz62_0); (try clear hfz62_1); (try clear hfz62_2); (try clear hfz62_3); (try clear hfz62_4); (try clear hfz62_5); (try clear hfz62_6); (try clear hfz62_7)
                      obtain ⟨kq, x119_60, rfl, HA, HJ60, HO_3, BK190, HB⟩ := hcut
                      cases kq with
                      | zero => exact absurd HA.out (by simp [entrepotref08_Check.j10])
                      | succ kj60 =>
                       have H := HA.out
                       clear HA
                       simp only [entrepotref08_Check.j10] at H
                       by_cases c64 : x119_60 = true
                       ·subst c64
                        have H1 : (if x3_56.length < 8796093022208 then (some (x3_56 ++ [(⟨7, 0⟩ : S58)])) else (none)) = some r := by rw [if_pos rfl] at H; exact H
                        clear H
                        have H := H1
                        clear H1
                        by_cases c65 : x3_56.length < 8796093022208
                        ·rw [if_pos c65] at H
                         have LMc65 := Aside0.mk c65
                         clear c65
                         obtain ⟨y214, hy214⟩ : ∃ y_ : List (S58), y_ = (x3_56 ++ [(⟨7, 0⟩ : S58)]) := ⟨_, rfl⟩
                         replace H : (some y214) = some r := by first | (rw [hy214]; with_reducible exact H) | (have H2_ := (Option.bind_some _ _).symm.trans H; rw [hy214]; with_reducible exact H2_) | (have H2_ := (Option.bind_some _ _).symm.trans H; with_reducible exact H2_) | with_reducible exact H | (rw [hy214]; exact H) | exact H
                         have Ny214 := Aside0.mk hy214
                         clear hy214
                         obtain rfl := Option.some.inj H
                         go_wp2_with (first | ((with_reducible refine gate_builtin (b := .append) (xs := #[.tmp 120, .tmp 122]) rfl ?_); at_builtin; refine Kd.R_append k58 (w0 := w) w.heap.size rfl (.tmp 120) (.tmp 122) 31 58 (.agg #[(.int .i64 0), (.int .i64 0)]) 16 rfl Try.underlying31 info58 rfl (by decide) (by omega) u3 x3_56 (⟨7, 0⟩ : S58) [.int .i64 7, .int .i64 0] (fun _ => True) (fun _ => False) rfl rfl ?aP (fun _ hk => hk.elim) ?aF ?aO ?aB ?aS ?aL ?_; (case aP => exact k58_mkM _ _ _ (⟨7, 0⟩ : S58)); (case aB => exact (by repeat (first | (with_reducible first | exact HB.out | apply below_alloc | apply pw_below_drewN | apply below_drew1 | refine below_set ?_ GE190.out) | exact HB.out))); (case aF => exact (fun _ _ => trivial)); (case aO => exact (by (with_reducible repeat (first | apply Kd.R_alloc | apply Kd.R_drewN | apply Kd.R_drew)); exact HO_3.out)); (case aS => exact (below_size (by repeat (first | (with_reducible first | exact HB.out | apply below_alloc | apply pw_below_drewN | apply below_drew1 | refine below_set ?_ GE190.out) | exact HB.out)))); (case aL => have := LMc65.out; omega); intro v215 w66 ho hb hg hat; rw [← Ny214.out] at ho; have n0_ := Aside0.mk (blk_grown (g := gb190) (o := .cells #[.string a0_0, .int .i64 a0_1, .int .i64 a0_2, .int .i64 a0_3, .int .i64 a0_4, .int .i64 a0_5, .slice A0_6 l0_6.length c0_6, .slice A0_7 l0_7.length c0_7] 36 (0, 0)) (by (with_reducible repeat (first | refine blk_drewN ?_ _ | refine blk_drew ?_ | refine blk_alloc ?_ _)); exact BK190.out) hg (Kd.R_ne HO_3.out BK190.out (by decide))); have n1_ := Aside0.mk (hb); have n2_ := Aside0.mk (ho); clear BK190; clear HB; clear HO_3; have BK190 := n0_; have HB := n1_; have HO216 := n2_; clear n0_ n1_ n2_; clear ho hb hg hat))
                         go_ret
                         exact ⟨_, by first | rfl | (simp [errW_none, errW_some] <;> rfl) | (simp [*, errW_none, errW_some] <;> rfl), by (with_reducible repeat (first | apply Kd.R_alloc | apply Kd.R_drewN | apply Kd.R_drew)); exact HO216.out, by repeat (first | (with_reducible first | exact HB.out | apply below_alloc | apply pw_below_drewN | apply below_drew1 | refine below_set ?_ GE190.out) | exact HB.out)⟩
                        ·rw [if_neg c65] at H
                         exact absurd H (by simp)
                       ·replace c64 := Bool.eq_false_iff.mpr c64
                        subst c64
                        have H1 : ((entrepotref08_matrix.f kj60 a0_0 a0_1 a0_2 a0_3 a0_4 a0_5 l0_6 l0_7).bind fun t217 => (if t217 = true then (entrepotref08_Check.j11 kj60 x3_56 (l0_6.length : Int) a0_0 a0_1 a0_2 a0_3 a0_4 a0_5 l0_6 l0_7) else (if x3_56.length < 8796093022208 then (entrepotref08_Check.j11 kj60 (x3_56 ++ [(⟨8, 0⟩ : S58)]) (l0_6.length : Int) a0_0 a0_1 a0_2 a0_3 a0_4 a0_5 l0_6 l0_7) else (none)))) = some r := by rw [if_neg (show ¬ (false = true) by decide)] at H; exact H
                        clear H
                        have H := H1
                        clear H1
                        replace H := Option.bind_eq_some_iff.mp H
                        obtain ⟨t217, A670, H⟩ := H
                        replace H : (if t217 = true then (entrepotref08_Check.j11 kj60 x3_56 (l0_6.length : Int) a0_0 a0_1 a0_2 a0_3 a0_4 a0_5 l0_6 l0_7) else (if x3_56.length < 8796093022208 then (entrepotref08_Check.j11 kj60 (x3_56 ++ [(⟨8, 0⟩ : S58)]) (l0_6.length : Int) a0_0 a0_1 a0_2 a0_3 a0_4 a0_5 l0_6 l0_7) else (none))) = some r := H
                        have A67 := Aside0.mk A670
                        clear A670
                        have HC68 := Aside0.mk H
                        clear H
                        obtain ⟨hcz69_0, hcz69_1, hcz69_2, hcz69_3, hcz69_4, hcz69_5, hcz69_6, hcz69_7, hfz69_0, hfz69_1, hfz69_2, hfz69_3, hfz69_4, hfz69_5, hfz69_6, hfz69_7⟩ := blk8_ BK190.out
                        go_upto_if 126 with (first | ((with_reducible refine gate_callee (f := 36) rfl ?_); refine goesL_ (some 125) rfl rfl Try.func36 (by kernel_rfl) rfl #[.agg #[.string a0_0, .int .i64 a0_1, .int .i64 a0_2, .int .i64 a0_3, .int .i64 a0_4, .int .i64 a0_5, .slice A0_6 l0_6.length c0_6, .slice A0_7 l0_7.length c0_7]] rfl (by (try simp only [List.map_toArray, List.map_cons, List.map_nil]); first | done | rfl | (simp only [List.length_drop, List.length_take]; rfl)) ?_; (with_reducible refine (entrepotref08_matrix.calls kj60 a0_0 a0_1 a0_2 a0_3 a0_4 a0_5 _ _ l0_6 _ _ l0_7 t217 _ ?side1 ?side2 ?side3 ?side4 A67.out).mono ?_); (case side1 => repeat (first | exact (Kd.C_below HR0_6.out HB.out) | (with_reducible refine Kd.C_alloc ?_ _) | (with_reducible refine Kd.C_drewN ?_ _) | (with_reducible refine Kd.C_drew ?_))); (case side2 => exact HC0_6.out); (case side3 => repeat (first | exact (Kd.C_below HR0_7.out HB.out) | (with_reducible refine Kd.C_alloc ?_ _) | (with_reducible refine Kd.C_drewN ?_ _) | (with_reducible refine Kd.C_drew ?_))); (case side4 => exact HC0_7.out); rintro e w70 ⟨rfl, hb⟩; refine ⟨_, rfl, ?_⟩; have n0_ := Aside0.mk (Kd.R_below (by (with_reducible repeat (first | apply Kd.R_alloc | apply Kd.R_drewN | apply Kd.R_drew)); exact HO_3.out) hb); have n1_ := Aside0.mk (blk_below (g := gb190) (o := .cells #[.string a0_0, .int .i64 a0_1, .int .i64 a0_2, .int .i64 a0_3, .int .i64 a0_4, .int .i64 a0_5, .slice A0_6 l0_6.length c0_6, .slice A0_7 l0_7.length c0_7] 36 (0, 0)) (by (with_reducible repeat (first | refine blk_drewN ?_ _ | refine blk_drew ?_ | refine blk_alloc ?_ _)); exact BK190.out) hb); have n2_ := Aside0.mk (below_step (by repeat (first | (with_reducible first | exact HB.out | apply below_alloc | apply pw_below_drewN | apply below_drew1 | refine below_set ?_ GE190.out) | exact HB.out)) hb); clear HO_3; clear BK190; clear HB; have HO_3 := n0_; have BK190 := n1_; have HB := n2_; clear n0_ n1_ n2_; (try clear hb); (try clear hb2); (try clear hk); (try clear hi)))
                        (try simp only [Act.put, List.setIfInBounds_toArray, List.set_cons_zero, List.set_cons_succ])
                        go_cut [3] (fun v3 wc => ∃ (kq : Nat) (x3_67 : List (S58)), Aside0 (entrepotref08_Check.j11 kq x3_67 (l0_6.length : Int) a0_0 a0_1 a0_2 a0_3 a0_4 a0_5 l0_6 l0_7 = some r) ∧ Aside0 (kq ≤ kj60) ∧ Aside0 (Kd.R k58 58 wc w.heap.size (fun _ => True) v3 x3_67) ∧ Aside0 (wc.heap[gb190]? = some (.cells #[.string a0_0, .int .i64 a0_1, .int .i64 a0_2, .int .i64 a0_3, .int .i64 a0_4, .int .i64 a0_5, (.slice A0_6 l0_6.length c0_6), (.slice A0_7 l0_7.length c0_7)] 36 (0, 0))) ∧ Aside0 (Below w.heap.size w wc))
                        case first => as_aux_lemma =>
                         have H := HC68.out
                         clear HC68
                         by_cases c71 : t217 = true
                         ·subst c71
                          have H1 : (entrepotref08_Check.j11 kj60 x3_56 (l0_6.length : Int) a0_0 a0_1 a0_2 a0_3 a0_4 a0_5 l0_6 l0_7) = some r := by rw [if_pos rfl] at H; exact H
                          clear H
                          have H := H1
                          clear H1
                          have H' := Aside0.mk H
                          clear H
                          go_wp2
                          go_meet
                          case rel => exact ⟨_, (x3_56), H', ⟨by have := HJ2.out; have := HJ10.out; have := HJ14.out; have := HJ19.out; have := HJ24.out; have := HJ32.out; have := HJ36.out; have := HJ44.out; have := HJ48.out; have := HJ56.out; have := HJ60.out; first | omega | exact Nat.le_refl _⟩, ⟨by (with_reducible repeat (first | apply Kd.R_alloc | apply Kd.R_drewN | apply Kd.R_drew)); exact HO_3.out⟩, ⟨by (with_reducible repeat (first | refine blk_drewN ?_ _ | refine blk_drew ?_ | refine blk_alloc ?_ _)); exact BK190.out⟩, ⟨by repeat (first | (with_reducible first | exact HB.out | apply below_alloc | apply pw_below_drewN | apply below_drew1 | refine below_set ?_ GE190.out) | exact HB.out)⟩⟩
                         ·replace c71 := Bool.eq_false_iff.mpr c71
                          subst c71
                          have H1 : (if x3_56.length < 8796093022208 then (entrepotref08_Check.j11 kj60 (x3_56 ++ [(⟨8, 0⟩ : S58)]) (l0_6.length : Int) a0_0 a0_1 a0_2 a0_3 a0_4 a0_5 l0_6 l0_7) else (none)) = some r := by rw [if_neg (show ¬ (false = true) by decide)] at H; exact H
                          clear H
                          have H := H1
                          clear H1
                          by_cases c72 : x3_56.length < 8796093022208
                          ·rw [if_pos c72] at H
                           have LMc72 := Aside0.mk c72
                           clear c72
                           obtain ⟨y218, hy218⟩ : ∃ y_ : List (S58), y_ = (x3_56 ++ [(⟨8, 0⟩ : S58)]) := ⟨_, rfl⟩
                           replace H : (entrepotref08_Check.j11 kj60 y218 (l0_6.length : Int) a0_0 a0_1 a0_2 a0_3 a0_4 a0_5 l0_6 l0_7) = some r := by first | (rw [hy218]; with_reducible exact H) | (have H2_ := (Option.bind_some _ _).symm.trans H; rw [hy218]; with_reducible exact H2_) | (have H2_ := (Option.bind_some _ _).symm.trans H; with_reducible exact H2_) | with_reducible exact H | (rw [hy218]; exact H) | exact H
                           have Ny218 := Aside0.mk hy218
                           clear hy218
                           have H' := Aside0.mk H
                           clear H
                           go_wp2_with (first | ((with_reducible refine gate_builtin (b := .append) (xs := #[.tmp 127, .tmp 129]) rfl ?_); at_builtin; refine Kd.R_append k58 (w0 := w) w.heap.size rfl (.tmp 127) (.tmp 129) 31 58 (.agg #[(.int .i64 0), (.int .i64 0)]) 16 rfl Try.underlying31 info58 rfl (by decide) (by omega) u3 x3_56 (⟨8, 0⟩ : S58) [.int .i64 8, .int .i64 0] (fun _ => True) (fun _ => False) rfl rfl ?aP (fun _ hk => hk.elim) ?aF ?aO ?aB ?aS ?aL ?_; (case aP => exact k58_mkM _ _ _ (⟨8, 0⟩ : S58)); (case aB => exact (by repeat (first | (with_reducible first | exact HB.out | apply below_alloc | apply pw_below_drewN | apply below_drew1 | refine below_set ?_ GE190.out) | exact HB.out))); (case aF => exact (fun _ _ => trivial)); (case aO => exact (by (with_reducible repeat (first | apply Kd.R_alloc | apply Kd.R_drewN | apply Kd.R_drew)); exact HO_3.out)); (case aS => exact (below_size (by repeat (first | (with_reducible first | exact HB.out | apply below_alloc | apply pw_below_drewN | apply below_drew1 | refine below_set ?_ GE190.out) | exact HB.out)))); (case aL => have := LMc72.out; omega); intro v219 w73 ho hb hg hat; rw [← Ny218.out] at ho; have n0_ := Aside0.mk (blk_grown (g := gb190) (o := .cells #[.string a0_0, .int .i64 a0_1, .int .i64 a0_2, .int .i64 a0_3, .int .i64 a0_4, .int .i64 a0_5, .slice A0_6 l0_6.length c0_6, .slice A0_7 l0_7.length c0_7] 36 (0, 0)) (by (with_reducible repeat (first | refine blk_drewN ?_ _ | refine blk_drew ?_ | refine blk_alloc ?_ _)); exact BK190.out) hg (Kd.R_ne HO_3.out BK190.out (by decide))); have n1_ := Aside0.mk (hb); have n2_ := Aside0.mk (ho); clear BK190; clear HB; clear HO_3; have BK190 := n0_; have HB := n1_; have HO220 := n2_; clear n0_ n1_ n2_; clear ho hb hg hat))
                           go_meet
                           case rel => exact ⟨_, (y218), H', ⟨by have := HJ2.out; have := HJ10.out; have := HJ14.out; have := HJ19.out; have := HJ24.out; have := HJ32.out; have := HJ36.out; have := HJ44.out; have := HJ48.out; have := HJ56.out; have := HJ60.out; first | omega | exact Nat.le_refl _⟩, ⟨by (with_reducible repeat (first | apply Kd.R_alloc | apply Kd.R_drewN | apply Kd.R_drew)); exact HO220.out⟩, ⟨by (with_reducible repeat (first | refine blk_drewN ?_ _ | refine blk_drew ?_ | refine blk_alloc ?_ _)); exact BK190.out⟩, ⟨by repeat (first | (with_reducible first | exact HB.out | apply below_alloc | apply pw_below_drewN | apply below_drew1 | refine below_set ?_ GE190.out) | exact HB.out)⟩⟩
                          ·rw [if_neg c72] at H
                           exact absurd H (by simp)
                        case rest => as_aux_lemma =>
                         clear HC68
                         (try clear c64); (try clear hcz69_0); (try clear hcz69_1); (try clear hcz69_2); (try clear hcz69_3); (try clear hcz69_4); (try clear hcz69_5); (try clear hcz69_6); (try clear hcz69_7); (try clear hfz69_0); (try clear hfz69_1); (try clear hfz69_2); (try clear hfz69_3); (try clear hfz69_4); (try clear hfz69_5); (try clear hfz69_6); (try clear hfz69_7)
                         obtain ⟨kq, x3_67, HA, HJ67, HO_3, BK190, HB⟩ := hcut
                         cases kq with
                         | zero => exact absurd HA.out (by simp [entrepotref08_Check.j11])
                         | succ kj67 =>
                          have H := HA.out
                          clear HA
                          simp only [entrepotref08_Check.j11] at H
                          have H' := Aside0.mk H
                          clear H
                          go_wp2
                          go_loopg [3, 5] kj67 (fun kq v3 v5 w' => ∃ (x3_13 : List (S58)) (x5_13 : Int), v5 = .int .i64 x5_13 ∧ Aside0 (entrepotref08_Check.l0 kq x3_13 (l0_6.length : Int) x5_13 a0_0 a0_1 a0_2 a0_3 a0_4 a0_5 l0_6 l0_7 = some r) ∧ Aside0 (kq ≤ kj67) ∧ Aside0 (Kd.R k58 58 w' w.heap.size (fun _ => True) v3 x3_13) ∧ Aside0 (w'.heap[gb190]? = some (.cells #[.string a0_0, .int .i64 a0_1, .int .i64 a0_2, .int .i64 a0_3, .int .i64 a0_4, .int .i64 a0_5, (.slice A0_6 l0_6.length c0_6), (.slice A0_7 l0_7.length c0_7)] 36 (0, 0))) ∧ Aside0 (Below w.heap.size w w'))
                          case atStart => exact ⟨(x3_67), (0), (by first | rfl | (simp; done) | (simp [*]; done)), H', ⟨Nat.le_refl _⟩, ⟨by (with_reducible repeat (first | apply Kd.R_alloc | apply Kd.R_drewN | apply Kd.R_drew)); exact HO_3.out⟩, ⟨by (with_reducible repeat (first | refine blk_drewN ?_ _ | refine blk_drew ?_ | refine blk_alloc ?_ _)); exact BK190.out⟩, ⟨by repeat (first | (with_reducible first | exact HB.out | apply below_alloc | apply pw_below_drewN | apply below_drew1 | refine below_set ?_ GE190.out) | exact HB.out)⟩⟩
                          case round =>
                           clear H'
                           obtain ⟨x3_13, x5_13, rfl, HA, HK13, HO_3, BK190, HB⟩ := hrel
                           cases gk with
                           | zero => exact absurd HA.out (by simp [entrepotref08_Check.l0])
                           | succ k13 =>
                            have H := HA.out
                            clear HA
                            simp only [entrepotref08_Check.l0] at H
                            by_cases c74 : x5_13 < (l0_6.length : Int)
                            ·rw [if_pos c74] at H
                             have c74b0 : decide (x5_13 < (l0_6.length : Int)) = true := decide_eq_true c74
                             clear c74
                             replace H := Option.bind_eq_some_iff.mp H
                             obtain ⟨t221, A750, H⟩ := H
                             replace H : (if t221 = true then (entrepotref08_Check.j13 k13 x3_13 (l0_6.length : Int) x5_13 a0_0 a0_1 a0_2 a0_3 a0_4 a0_5 l0_6 l0_7) else (if x3_13.length < 8796093022208 then (entrepotref08_Check.j13 k13 (x3_13 ++ [(⟨9, x5_13⟩ : S58)]) (l0_6.length : Int) x5_13 a0_0 a0_1 a0_2 a0_3 a0_4 a0_5 l0_6 l0_7) else (none))) = some r := H
                             have A75 := Aside0.mk A750
                             clear A750
                             have HC76 := Aside0.mk H
                             clear H
                             obtain ⟨hcz77_0, hcz77_1, hcz77_2, hcz77_3, hcz77_4, hcz77_5, hcz77_6, hcz77_7, hfz77_0, hfz77_1, hfz77_2, hfz77_3, hfz77_4, hfz77_5, hfz77_6, hfz77_7⟩ := blk8_ BK190.out
                             go_upto_if 139 with (first | ((with_reducible refine gate_callee (f := 37) rfl ?_); refine goesL_ (some 138) rfl rfl Try.func37 (by kernel_rfl) rfl #[.agg #[.string a0_0, .int .i64 a0_1, .int .i64 a0_2, .int .i64 a0_3, .int .i64 a0_4, .int .i64 a0_5, .slice A0_6 l0_6.length c0_6, .slice A0_7 l0_7.length c0_7], .int .i64 x5_13] rfl (by (try simp only [List.map_toArray, List.map_cons, List.map_nil]); first | done | rfl | (simp only [List.length_drop, List.length_take]; rfl)) ?_; (with_reducible refine (entrepotref08_coord.calls a0_0 a0_1 a0_2 a0_3 a0_4 a0_5 _ _ l0_6 _ _ l0_7 x5_13 t221 _ ?side1 ?side2 ?side3 ?side4 A75.out).mono ?_); (case side1 => repeat (first | exact (Kd.C_below HR0_6.out HB.out) | (with_reducible refine Kd.C_alloc ?_ _) | (with_reducible refine Kd.C_drewN ?_ _) | (with_reducible refine Kd.C_drew ?_))); (case side2 => exact HC0_6.out); (case side3 => repeat (first | exact (Kd.C_below HR0_7.out HB.out) | (with_reducible refine Kd.C_alloc ?_ _) | (with_reducible refine Kd.C_drewN ?_ _) | (with_reducible refine Kd.C_drew ?_))); (case side4 => exact HC0_7.out); rintro e w78 ⟨rfl, hb⟩; refine ⟨_, rfl, ?_⟩; have n0_ := Aside0.mk (Kd.R_below (by (with_reducible repeat (first | apply Kd.R_alloc | apply Kd.R_drewN | apply Kd.R_drew)); exact HO_3.out) hb); have n1_ := Aside0.mk (blk_below (g := gb190) (o := .cells #[.string a0_0, .int .i64 a0_1, .int .i64 a0_2, .int .i64 a0_3, .int .i64 a0_4, .int .i64 a0_5, .slice A0_6 l0_6.length c0_6, .slice A0_7 l0_7.length c0_7] 36 (0, 0)) (by (with_reducible repeat (first | refine blk_drewN ?_ _ | refine blk_drew ?_ | refine blk_alloc ?_ _)); exact BK190.out) hb); have n2_ := Aside0.mk (below_step (by repeat (first | (with_reducible first | exact HB.out | apply below_alloc | apply pw_below_drewN | apply below_drew1 | refine below_set ?_ GE190.out) | exact HB.out)) hb); clear HO_3; clear BK190; clear HB; have HO_3 := n0_; have BK190 := n1_; have HB := n2_; clear n0_ n1_ n2_; (try clear hb); (try clear hb2); (try clear hk); (try clear hi)))
                             (try simp only [Act.put, List.setIfInBounds_toArray, List.set_cons_zero, List.set_cons_succ])
                             go_cut [3] (fun v3 wc => ∃ (kq : Nat) (x3_75 : List (S58)), Aside0 (entrepotref08_Check.j13 kq x3_75 (l0_6.length : Int) x5_13 a0_0 a0_1 a0_2 a0_3 a0_4 a0_5 l0_6 l0_7 = some r) ∧ Aside0 (kq ≤ k13) ∧ Aside0 (Kd.R k58 58 wc w.heap.size (fun _ => True) v3 x3_75) ∧ Aside0 (wc.heap[gb190]? = some (.cells #[.string a0_0, .int .i64 a0_1, .int .i64 a0_2, .int .i64 a0_3, .int .i64 a0_4, .int .i64 a0_5, (.slice A0_6 l0_6.length c0_6), (.slice A0_7 l0_7.length c0_7)] 36 (0, 0))) ∧ Aside0 (Below w.heap.size w wc))
                             case first => as_aux_lemma =>
                              have H := HC76.out
                              clear HC76
                              by_cases c79 : t221 = true
                              ·subst c79
                               have H1 : (entrepotref08_Check.j13 k13 x3_13 (l0_6.length : Int) x5_13 a0_0 a0_1 a0_2 a0_3 a0_4 a0_5 l0_6 l0_7) = some r := by rw [if_pos rfl] at H; exact H
                               clear H
                               have H := H1
                               clear H1
                               have H' := Aside0.mk H
                               clear H
                               go_wp2
                               go_meet
                               case rel => exact ⟨_, (x3_13), H', ⟨by have := HJ2.out; have := HJ10.out; have := HJ14.out; have := HJ19.out; have := HJ24.out; have := HJ32.out; have := HJ36.out; have := HJ44.out; have := HJ48.out; have := HJ56.out; have := HJ60.out; have := HJ67.out; have := HK13.out; first | omega | exact Nat.le_refl _⟩, ⟨by (with_reducible repeat (first | apply Kd.R_alloc | apply Kd.R_drewN | apply Kd.R_drew)); exact HO_3.out⟩, ⟨by (with_reducible repeat (first | refine blk_drewN ?_ _ | refine blk_drew ?_ | refine blk_alloc ?_ _)); exact BK190.out⟩, ⟨by repeat (first | (with_reducible first | exact HB.out | apply below_alloc | apply pw_below_drewN | apply below_drew1 | refine below_set ?_ GE190.out) | exact HB.out)⟩⟩
                              ·replace c79 := Bool.eq_false_iff.mpr c79
                               subst c79
                               have H1 : (if x3_13.length < 8796093022208 then (entrepotref08_Check.j13 k13 (x3_13 ++ [(⟨9, x5_13⟩ : S58)]) (l0_6.length : Int) x5_13 a0_0 a0_1 a0_2 a0_3 a0_4 a0_5 l0_6 l0_7) else (none)) = some r := by rw [if_neg (show ¬ (false = true) by decide)] at H; exact H
                               clear H
                               have H := H1
                               clear H1
                               by_cases c80 : x3_13.length < 8796093022208
                               ·rw [if_pos c80] at H
                                have LMc80 := Aside0.mk c80
                                clear c80
                                obtain ⟨y222, hy222⟩ : ∃ y_ : List (S58), y_ = (x3_13 ++ [(⟨9, x5_13⟩ : S58)]) := ⟨_, rfl⟩
                                replace H : (entrepotref08_Check.j13 k13 y222 (l0_6.length : Int) x5_13 a0_0 a0_1 a0_2 a0_3 a0_4 a0_5 l0_6 l0_7) = some r := by first | (rw [hy222]; with_reducible exact H) | (have H2_ := (Option.bind_some _ _).symm.trans H; rw [hy222]; with_reducible exact H2_) | (have H2_ := (Option.bind_some _ _).symm.trans H; with_reducible exact H2_) | with_reducible exact H | (rw [hy222]; exact H) | exact H
                                have Ny222 := Aside0.mk hy222
                                clear hy222
                                have H' := Aside0.mk H
                                clear H
                                go_wp2_with (first | ((with_reducible refine gate_builtin (b := .append) (xs := #[.tmp 140, .tmp 143]) rfl ?_); at_builtin; refine Kd.R_append k58 (w0 := w) w.heap.size rfl (.tmp 140) (.tmp 143) 31 58 (.agg #[(.int .i64 0), (.int .i64 0)]) 16 rfl Try.underlying31 info58 rfl (by decide) (by omega) u3 x3_13 (⟨9, x5_13⟩ : S58) [.int .i64 9, .int .i64 x5_13] (fun _ => True) (fun _ => False) rfl rfl ?aP (fun _ hk => hk.elim) ?aF ?aO ?aB ?aS ?aL ?_; (case aP => exact k58_mkM _ _ _ (⟨9, x5_13⟩ : S58)); (case aB => exact (by repeat (first | (with_reducible first | exact HB.out | apply below_alloc | apply pw_below_drewN | apply below_drew1 | refine below_set ?_ GE190.out) | exact HB.out))); (case aF => exact (fun _ _ => trivial)); (case aO => exact (by (with_reducible repeat (first | apply Kd.R_alloc | apply Kd.R_drewN | apply Kd.R_drew)); exact HO_3.out)); (case aS => exact (below_size (by repeat (first | (with_reducible first | exact HB.out | apply below_alloc | apply pw_below_drewN | apply below_drew1 | refine below_set ?_ GE190.out) | exact HB.out)))); (case aL => have := LMc80.out; omega); intro v223 w81 ho hb hg hat; rw [← Ny222.out] at ho; have n0_ := Aside0.mk (blk_grown (g := gb190) (o := .cells #[.string a0_0, .int .i64 a0_1, .int .i64 a0_2, .int .i64 a0_3, .int .i64 a0_4, .int .i64 a0_5, .slice A0_6 l0_6.length c0_6, .slice A0_7 l0_7.length c0_7] 36 (0, 0)) (by (with_reducible repeat (first | refine blk_drewN ?_ _ | refine blk_drew ?_ | refine blk_alloc ?_ _)); exact BK190.out) hg (Kd.R_ne HO_3.out BK190.out (by decide))); have n1_ := Aside0.mk (hb); have n2_ := Aside0.mk (ho); clear BK190; clear HB; clear HO_3; have BK190 := n0_; have HB := n1_; have HO224 := n2_; clear n0_ n1_ n2_; clear ho hb hg hat))
                                go_meet
                                case rel => exact ⟨_, (y222), H', ⟨by have := HJ2.out; have := HJ10.out; have := HJ14.out; have := HJ19.out; have := HJ24.out; have := HJ32.out; have := HJ36.out; have := HJ44.out; have := HJ48.out; have := HJ56.out; have := HJ60.out; have := HJ67.out; have := HK13.out; first | omega | exact Nat.le_refl _⟩, ⟨by (with_reducible repeat (first | apply Kd.R_alloc | apply Kd.R_drewN | apply Kd.R_drew)); exact HO224.out⟩, ⟨by (with_reducible repeat (first | refine blk_drewN ?_ _ | refine blk_drew ?_ | refine blk_alloc ?_ _)); exact BK190.out⟩, ⟨by repeat (first | (with_reducible first | exact HB.out | apply below_alloc | apply pw_below_drewN | apply below_drew1 | refine below_set ?_ GE190.out) | exact HB.out)⟩⟩
                               ·rw [if_neg c80] at H
                                exact absurd H (by simp)
                             case rest => as_aux_lemma =>
                              clear HC76
                              (try clear c74); (try clear c74b0); (try clear hcz77_0); (try clear hcz77_1); (try clear hcz77_2); (try clear hcz77_3); (try clear hcz77_4); (try clear hcz77_5); (try clear hcz77_6); (try clear hcz77_7); (try clear hfz77_0); (try clear hfz77_1); (try clear hfz77_2); (try clear hfz77_3); (try clear hfz77_4); (try clear hfz77_5); (try clear hfz77_6); (try clear hfz77_7)
                              obtain ⟨kq, x3_75, HA, HJ75, HO_3, BK190, HB⟩ := hcut
                              cases kq with
                              | zero => exact absurd HA.out (by simp [entrepotref08_Check.j13])
                              | succ kj75 =>
                               have H := HA.out
                               clear HA
                               simp only [entrepotref08_Check.j13] at H
                               replace H := Option.bind_eq_some_iff.mp H
                               obtain ⟨t225, A820, H⟩ := H
                               replace H : (if t225 = true then (entrepotref08_Check.j14 kj75 x3_75 (l0_6.length : Int) x5_13 a0_0 a0_1 a0_2 a0_3 a0_4 a0_5 l0_6 l0_7) else (if x3_75.length < 8796093022208 then (entrepotref08_Check.j14 kj75 (x3_75 ++ [(⟨10, x5_13⟩ : S58)]) (l0_6.length : Int) x5_13 a0_0 a0_1 a0_2 a0_3 a0_4 a0_5 l0_6 l0_7) else (none))) = some r := H
                               have A82 := Aside0.mk A820
                               clear A820
                               have HC83 := Aside0.mk H
                               clear H
                               obtain ⟨hcz84_0, hcz84_1, hcz84_2, hcz84_3, hcz84_4, hcz84_5, hcz84_6, hcz84_7, hfz84_0, hfz84_1, hfz84_2, hfz84_3, hfz84_4, hfz84_5, hfz84_6, hfz84_7⟩ := blk8_ BK190.out
                               go_upto_if 148 with (first | ((with_reducible refine gate_callee (f := 38) rfl ?_); refine goesL_ (some 147) rfl rfl Try.func38 (by kernel_rfl) rfl #[.agg #[.string a0_0, .int .i64 a0_1, .int .i64 a0_2, .int .i64 a0_3, .int .i64 a0_4, .int .i64 a0_5, .slice A0_6 l0_6.length c0_6, .slice A0_7 l0_7.length c0_7], .int .i64 x5_13] rfl (by (try simp only [List.map_toArray, List.map_cons, List.map_nil]); first | done | rfl | (simp only [List.length_drop, List.length_take]; rfl)) ?_; (with_reducible refine (entrepotref08_demand.calls kj75 a0_0 a0_1 a0_2 a0_3 a0_4 a0_5 _ _ l0_6 _ _ l0_7 x5_13 t225 _ ?side1 ?side2 ?side3 ?side4 A82.out).mono ?_); (case side1 => repeat (first | exact (Kd.C_below HR0_6.out HB.out) | (with_reducible refine Kd.C_alloc ?_ _) | (with_reducible refine Kd.C_drewN ?_ _) | (with_reducible refine Kd.C_drew ?_))); (case side2 => exact HC0_6.out); (case side3 => repeat (first | exact (Kd.C_below HR0_7.out HB.out) | (with_reducible refine Kd.C_alloc ?_ _) | (with_reducible refine Kd.C_drewN ?_ _) | (with_reducible refine Kd.C_drew ?_))); (case side4 => exact HC0_7.out); rintro e w85 ⟨rfl, hb⟩; refine ⟨_, rfl, ?_⟩; have n0_ := Aside0.mk (Kd.R_below (by (with_reducible repeat (first | apply Kd.R_alloc | apply Kd.R_drewN | apply Kd.R_drew)); exact HO_3.out) hb); have n1_ := Aside0.mk (blk_below (g := gb190) (o := .cells #[.string a0_0, .int .i64 a0_1, .int .i64 a0_2, .int .i64 a0_3, .int .i64 a0_4, .int .i64 a0_5, .slice A0_6 l0_6.length c0_6, .slice A0_7 l0_7.length c0_7] 36 (0, 0)) (by (with_reducible repeat (first | refine blk_drewN ?_ _ | refine blk_drew ?_ | refine blk_alloc ?_ _)); exact BK190.out) hb); have n2_ := Aside0.mk (below_step (by repeat (first | (with_reducible first | exact HB.out | apply below_alloc | apply pw_below_drewN | apply below_drew1 | refine below_set ?_ GE190.out) | exact HB.out)) hb); clear HO_3; clear BK190; clear HB; have HO_3 := n0_; have BK190 := n1_; have HB := n2_; clear n0_ n1_ n2_; (try clear hb); (try clear hb2); (try clear hk); (try clear hi)))
                               (try simp only [Act.put, List.setIfInBounds_toArray, List.set_cons_zero, List.set_cons_succ])
                               go_cut [3] (fun v3 wc => ∃ (kq : Nat) (x3_82 : List (S58)), Aside0 (entrepotref08_Check.j14 kq x3_82 (l0_6.length : Int) x5_13 a0_0 a0_1 a0_2 a0_3 a0_4 a0_5 l0_6 l0_7 = some r) ∧ Aside0 (kq ≤ kj75) ∧ Aside0 (Kd.R k58 58 wc w.heap.size (fun _ => True) v3 x3_82) ∧ Aside0 (wc.heap[gb190]? = some (.cells #[.string a0_0, .int .i64 a0_1, .int .i64 a0_2, .int .i64 a0_3, .int .i64 a0_4, .int .i64 a0_5, (.slice A0_6 l0_6.length c0_6), (.slice A0_7 l0_7.length c0_7)] 36 (0, 0))) ∧ Aside0 (Below w.heap.size w wc))
                               case first => as_aux_lemma =>
                                have H := HC83.out
                                clear HC83
                                by_cases c86 : t225 = true
                                ·subst c86
                                 have H1 : (entrepotref08_Check.j14 kj75 x3_75 (l0_6.length : Int) x5_13 a0_0 a0_1 a0_2 a0_3 a0_4 a0_5 l0_6 l0_7) = some r := by rw [if_pos rfl] at H; exact H
                                 clear H
                                 have H := H1
                                 clear H1
                                 have H' := Aside0.mk H
                                 clear H
                                 go_wp2
                                 go_meet
                                 case rel => exact ⟨_, (x3_75), H', ⟨by have := HJ2.out; have := HJ10.out; have := HJ14.out; have := HJ19.out; have := HJ24.out; have := HJ32.out; have := HJ36.out; have := HJ44.out; have := HJ48.out; have := HJ56.out; have := HJ60.out; have := HJ67.out; have := HK13.out; have := HJ75.out; first | omega | exact Nat.le_refl _⟩, ⟨by (with_reducible repeat (first | apply Kd.R_alloc | apply Kd.R_drewN | apply Kd.R_drew)); exact HO_3.out⟩, ⟨by (with_reducible repeat (first | refine blk_drewN ?_ _ | refine blk_drew ?_ | refine blk_alloc ?_ _)); exact BK190.out⟩, ⟨by repeat (first | (with_reducible first | exact HB.out | apply below_alloc | apply pw_below_drewN | apply below_drew1 | refine below_set ?_ GE190.out) | exact HB.out)⟩⟩
                                ·replace c86 := Bool.eq_false_iff.mpr c86
                                 subst c86
                                 have H1 : (if x3_75.length < 8796093022208 then (entrepotref08_Check.j14 kj75 (x3_75 ++ [(⟨10, x5_13⟩ : S58)]) (l0_6.length : Int) x5_13 a0_0 a0_1 a0_2 a0_3 a0_4 a0_5 l0_6 l0_7) else (none)) = some r := by rw [if_neg (show ¬ (false = true) by decide)] at H; exact H
                                 clear H
                                 have H := H1
                                 clear H1
                                 by_cases c87 : x3_75.length < 8796093022208
                                 ·rw [if_pos c87] at H
                                  have LMc87 := Aside0.mk c87
                                  clear c87
                                  obtain ⟨y226, hy226⟩ : ∃ y_ : List (S58), y_ = (x3_75 ++ [(⟨10, x5_13⟩ : S58)]) := ⟨_, rfl⟩
                                  replace H : (entrepotref08_Check.j14 kj75 y226 (l0_6.length : Int) x5_13 a0_0 a0_1 a0_2 a0_3 a0_4 a0_5 l0_6 l0_7) = some r := by first | (rw [hy226]; with_reducible exact H) | (have H2_ := (Option.bind_some _ _).symm.trans H; rw [hy226]; with_reducible exact H2_) | (have H2_ := (Option.bind_some _ _).symm.trans H; with_reducible exact H2_) | with_reducible exact H | (rw [hy226]; exact H) | exact H
                                  have Ny226 := Aside0.mk hy226
                                  clear hy226
                                  have H' := Aside0.mk H
                                  clear H
                                  go_wp2_with (first | ((with_reducible refine gate_builtin (b := .append) (xs := #[.tmp 149, .tmp 152]) rfl ?_); at_builtin; refine Kd.R_append k58 (w0 := w) w.heap.size rfl (.tmp 149) (.tmp 152) 31 58 (.agg #[(.int .i64 0), (.int .i64 0)]) 16 rfl Try.underlying31 info58 rfl (by decide) (by omega) u3 x3_75 (⟨10, x5_13⟩ : S58) [.int .i64 10, .int .i64 x5_13] (fun _ => True) (fun _ => False) rfl rfl ?aP (fun _ hk => hk.elim) ?aF ?aO ?aB ?aS ?aL ?_; (case aP => exact k58_mkM _ _ _ (⟨10, x5_13⟩ : S58)); (case aB => exact (by repeat (first | (with_reducible first | exact HB.out | apply below_alloc | apply pw_below_drewN | apply below_drew1 | refine below_set ?_ GE190.out) | exact HB.out))); (case aF => exact (fun _ _ => trivial)); (case aO => exact (by (with_reducible repeat (first | apply Kd.R_alloc | apply Kd.R_drewN | apply Kd.R_drew)); exact HO_3.out)); (case aS => exact (below_size (by repeat (first | (with_reducible first | exact HB.out | apply below_alloc | apply pw_below_drewN | apply below_drew1 | refine below_set ?_ GE190.out) | exact HB.out)))); (case aL => have := LMc87.out; omega); intro v227 w88 ho hb hg hat; rw [← Ny226.out] at ho; have n0_ := Aside0.mk (blk_grown (g := gb190) (o := .cells #[.string a0_0, .int .i64 a0_1, .int .i64 a0_2, .int .i64 a0_3, .int .i64 a0_4, .int .i64 a0_5, .slice A0_6 l0_6.length c0_6, .slice A0_7 l0_7.length c0_7] 36 (0, 0)) (by (with_reducible repeat (first | refine blk_drewN ?_ _ | refine blk_drew ?_ | refine blk_alloc ?_ _)); exact BK190.out) hg (Kd.R_ne HO_3.out BK190.out (by decide))); have n1_ := Aside0.mk (hb); have n2_ := Aside0.mk (ho); clear BK190; clear HB; clear HO_3; have BK190 := n0_; have HB := n1_; have HO228 := n2_; clear n0_ n1_ n2_; clear ho hb hg hat))
                                  go_meet
                                  case rel => exact ⟨_, (y226), H', ⟨by have := HJ2.out; have := HJ10.out; have := HJ14.out; have := HJ19.out; have := HJ24.out; have := HJ32.out; have := HJ36.out; have := HJ44.out; have := HJ48.out; have := HJ56.out; have := HJ60.out; have := HJ67.out; have := HK13.out; have := HJ75.out; first | omega | exact Nat.le_refl _⟩, ⟨by (with_reducible repeat (first | apply Kd.R_alloc | apply Kd.R_drewN | apply Kd.R_drew)); exact HO228.out⟩, ⟨by (with_reducible repeat (first | refine blk_drewN ?_ _ | refine blk_drew ?_ | refine blk_alloc ?_ _)); exact BK190.out⟩, ⟨by repeat (first | (with_reducible first | exact HB.out | apply below_alloc | apply pw_below_drewN | apply below_drew1 | refine below_set ?_ GE190.out) | exact HB.out)⟩⟩
                                 ·rw [if_neg c87] at H
                                  exact absurd H (by simp)
                               case rest => as_aux_lemma =>
                                clear HC83
                                (try clear hcz84_0); (try clear hcz84_1); (try clear hcz84_2); (try clear hcz84_3); (try clear hcz84_4); (try clear hcz84_5); (try clear hcz84_6); (try clear hcz84_7); (try clear hfz84_0); (try clear hfz84_1); (try clear hfz84_2); (try clear hfz84_3); (try clear hfz84_4); (try clear hfz84_5); (try clear hfz84_6); (try clear hfz84_7)
                                obtain ⟨kq, x3_82, HA, HJ82, HO_3, BK190, HB⟩ := hcut
                                cases kq with
                                | zero => exact absurd HA.out (by simp [entrepotref08_Check.j14])
                                | succ kj82 =>
                                 have H := HA.out
                                 clear HA
                                 simp only [entrepotref08_Check.j14] at H
                                 replace H := Option.bind_eq_some_iff.mp H
                                 obtain ⟨t229, A890, H⟩ := H
                                 replace H : (if t229 = true then (entrepotref08_Check.j15 kj82 x3_82 (l0_6.length : Int) x5_13 a0_0 a0_1 a0_2 a0_3 a0_4 a0_5 l0_6 l0_7) else (if x3_82.length < 8796093022208 then (entrepotref08_Check.j15 kj82 (x3_82 ++ [(⟨11, x5_13⟩ : S58)]) (l0_6.length : Int) x5_13 a0_0 a0_1 a0_2 a0_3 a0_4 a0_5 l0_6 l0_7) else (none))) = some r := H
                                 have A89 := Aside0.mk A890
                                 clear A890
                                 have HC90 := Aside0.mk H
                                 clear H
                                 obtain ⟨hcz91_0, hcz91_1, hcz91_2, hcz91_3, hcz91_4, hcz91_5, hcz91_6, hcz91_7, hfz91_0, hfz91_1, hfz91_2, hfz91_3, hfz91_4, hfz91_5, hfz91_6, hfz91_7⟩ := blk8_ BK190.out
                                 go_upto_if 157 with (first | ((with_reducible refine gate_callee (f := 39) rfl ?_); refine goesL_ (some 156) rfl rfl Try.func39 (by kernel_rfl) rfl #[.agg #[.string a0_0, .int .i64 a0_1, .int .i64 a0_2, .int .i64 a0_3, .int .i64 a0_4, .int .i64 a0_5, .slice A0_6 l0_6.length c0_6, .slice A0_7 l0_7.length c0_7], .int .i64 x5_13] rfl (by (try simp only [List.map_toArray, List.map_cons, List.map_nil]); first | done | rfl | (simp only [List.length_drop, List.length_take]; rfl)) ?_; (with_reducible refine (entrepotref08_window.calls kj82 a0_0 a0_1 a0_2 a0_3 a0_4 a0_5 _ _ l0_6 _ _ l0_7 x5_13 t229 _ ?side1 ?side2 ?side3 ?side4 A89.out).mono ?_); (case side1 => repeat (first | exact (Kd.C_below HR0_6.out HB.out) | (with_reducible refine Kd.C_alloc ?_ _) | (with_reducible refine Kd.C_drewN ?_ _) | (with_reducible refine Kd.C_drew ?_))); (case side2 => exact HC0_6.out); (case side3 => repeat (first | exact (Kd.C_below HR0_7.out HB.out) | (with_reducible refine Kd.C_alloc ?_ _) | (with_reducible refine Kd.C_drewN ?_ _) | (with_reducible refine Kd.C_drew ?_))); (case side4 => exact HC0_7.out); rintro e w92 ⟨rfl, hb⟩; refine ⟨_, rfl, ?_⟩; have n0_ := Aside0.mk (Kd.R_below (by (with_reducible repeat (first | apply Kd.R_alloc | apply Kd.R_drewN | apply Kd.R_drew)); exact HO_3.out) hb); have n1_ := Aside0.mk (blk_below (g := gb190) (o := .cells #[.string a0_0, .int .i64 a0_1, .int .i64 a0_2, .int .i64 a0_3, .int .i64 a0_4, .int .i64 a0_5, .slice A0_6 l0_6.length c0_6, .slice A0_7 l0_7.length c0_7] 36 (0, 0)) (by (with_reducible repeat (first | refine blk_drewN ?_ _ | refine blk_drew ?_ | refine blk_alloc ?_ _)); exact BK190.out) hb); have n2_ := Aside0.mk (below_step (by repeat (first | (with_reducible first | exact HB.out | apply below_alloc | apply pw_below_drewN | apply below_drew1 | refine below_set ?_ GE190.out) | exact HB.out)) hb); clear HO_3; clear BK190; clear HB; have HO_3 := n0_; have BK190 := n1_; have HB := n2_; clear n0_ n1_ n2_; (try clear hb); (try clear hb2); (try clear hk); (try clear hi)))
                                 (try simp only [Act.put, List.setIfInBounds_toArray, List.set_cons_zero, List.set_cons_succ])
                                 go_cut [3] (fun v3 wc => ∃ (kq : Nat) (x3_89 : List (S58)), Aside0 (entrepotref08_Check.j15 kq x3_89 (l0_6.length : Int) x5_13 a0_0 a0_1 a0_2 a0_3 a0_4 a0_5 l0_6 l0_7 = some r) ∧ Aside0 (kq ≤ kj82) ∧ Aside0 (Kd.R k58 58 wc w.heap.size (fun _ => True) v3 x3_89) ∧ Aside0 (wc.heap[gb190]? = some (.cells #[.string a0_0, .int .i64 a0_1, .int .i64 a0_2, .int .i64 a0_3, .int .i64 a0_4, .int .i64 a0_5, (.slice A0_6 l0_6.length c0_6), (.slice A0_7 l0_7.length c0_7)] 36 (0, 0))) ∧ Aside0 (Below w.heap.size w wc))
                                 case first => as_aux_lemma =>
                                  have H := HC90.out
                                  clear HC90
                                  by_cases c93 : t229 = true
                                  ·subst c93
                                   have H1 : (entrepotref08_Check.j15 kj82 x3_82 (l0_6.length : Int) x5_13 a0_0 a0_1 a0_2 a0_3 a0_4 a0_5 l0_6 l0_7) = some r := by rw [if_pos rfl] at H; exact H
                                   clear H
                                   have H := H1
                                   clear H1
                                   have H' := Aside0.mk H
                                   clear H
                                   go_wp2
                                   go_meet
                                   case rel => exact ⟨_, (x3_82), H', ⟨by have := HJ2.out; have := HJ10.out; have := HJ14.out; have := HJ19.out; have := HJ24.out; have := HJ32.out; have := HJ36.out; have := HJ44.out; have := HJ48.out; have := HJ56.out; have := HJ60.out; have := HJ67.out; have := HK13.out; have := HJ75.out; have := HJ82.out; first | omega | exact Nat.le_refl _⟩, ⟨by (with_reducible repeat (first | apply Kd.R_alloc | apply Kd.R_drewN | apply Kd.R_drew)); exact HO_3.out⟩, ⟨by (with_reducible repeat (first | refine blk_drewN ?_ _ | refine blk_drew ?_ | refine blk_alloc ?_ _)); exact BK190.out⟩, ⟨by repeat (first | (with_reducible first | exact HB.out | apply below_alloc | apply pw_below_drewN | apply below_drew1 | refine below_set ?_ GE190.out) | exact HB.out)⟩⟩
                                  ·replace c93 := Bool.eq_false_iff.mpr c93
                                   subst c93
                                   have H1 : (if x3_82.length < 8796093022208 then (entrepotref08_Check.j15 kj82 (x3_82 ++ [(⟨11, x5_13⟩ : S58)]) (l0_6.length : Int) x5_13 a0_0 a0_1 a0_2 a0_3 a0_4 a0_5 l0_6 l0_7) else (none)) = some r := by rw [if_neg (show ¬ (false = true) by decide)] at H; exact H
                                   clear H
                                   have H := H1
                                   clear H1
                                   by_cases c94 : x3_82.length < 8796093022208
                                   ·rw [if_pos c94] at H
                                    have LMc94 := Aside0.mk c94
                                    clear c94
                                    obtain ⟨y230, hy230⟩ : ∃ y_ : List (S58), y_ = (x3_82 ++ [(⟨11, x5_13⟩ : S58)]) := ⟨_, rfl⟩
                                    replace H : (entrepotref08_Check.j15 kj82 y230 (l0_6.length : Int) x5_13 a0_0 a0_1 a0_2 a0_3 a0_4 a0_5 l0_6 l0_7) = some r := by first | (rw [hy230]; with_reducible exact H) | (have H2_ := (Option.bind_some _ _).symm.trans H; rw [hy230]; with_reducible exact H2_) | (have H2_ := (Option.bind_some _ _).symm.trans H; with_reducible exact H2_) | with_reducible exact H | (rw [hy230]; exact H) | exact H
                                    have Ny230 := Aside0.mk hy230
                                    clear hy230
                                    have H' := Aside0.mk H
                                    clear H
                                    go_wp2_with (first | ((with_reducible refine gate_builtin (b := .append) (xs := #[.tmp 158, .tmp 161]) rfl ?_); at_builtin; refine Kd.R_append k58 (w0 := w) w.heap.size rfl (.tmp 158) (.tmp 161) 31 58 (.agg #[(.int .i64 0), (.int .i64 0)]) 16 rfl Try.underlying31 info58 rfl (by decide) (by omega) u3 x3_82 (⟨11, x5_13⟩ : S58) [.int .i64 11, .int .i64 x5_13] (fun _ => True) (fun _ => False) rfl rfl ?aP (fun _ hk => hk.elim) ?aF ?aO ?aB ?aS ?aL ?_; (case aP => exact k58_mkM _ _ _ (⟨11, x5_13⟩ : S58)); (case aB => exact (by repeat (first | (with_reducible first | exact HB.out | apply below_alloc | apply pw_below_drewN | apply below_drew1 | refine below_set ?_ GE190.out) | exact HB.out))); (case aF => exact (fun _ _ => trivial)); (case aO => exact (by (with_reducible repeat (first | apply Kd.R_alloc | apply Kd.R_drewN | apply Kd.R_drew)); exact HO_3.out)); (case aS => exact (below_size (by repeat (first | (with_reducible first | exact HB.out | apply below_alloc | apply pw_below_drewN | apply below_drew1 | refine below_set ?_ GE190.out) | exact HB.out)))); (case aL => have := LMc94.out; omega); intro v231 w95 ho hb hg hat; rw [← Ny230.out] at ho; have n0_ := Aside0.mk (blk_grown (g := gb190) (o := .cells #[.string a0_0, .int .i64 a0_1, .int .i64 a0_2, .int .i64 a0_3, .int .i64 a0_4, .int .i64 a0_5, .slice A0_6 l0_6.length c0_6, .slice A0_7 l0_7.length c0_7] 36 (0, 0)) (by (with_reducible repeat (first | refine blk_drewN ?_ _ | refine blk_drew ?_ | refine blk_alloc ?_ _)); exact BK190.out) hg (Kd.R_ne HO_3.out BK190.out (by decide))); have n1_ := Aside0.mk (hb); have n2_ := Aside0.mk (ho); clear BK190; clear HB; clear HO_3; have BK190 := n0_; have HB := n1_; have HO232 := n2_; clear n0_ n1_ n2_; clear ho hb hg hat))
                                    go_meet
                                    case rel => exact ⟨_, (y230), H', ⟨by have := HJ2.out; have := HJ10.out; have := HJ14.out; have := HJ19.out; have := HJ24.out; have := HJ32.out; have := HJ36.out; have := HJ44.out; have := HJ48.out; have := HJ56.out; have := HJ60.out; have := HJ67.out; have := HK13.out; have := HJ75.out; have := HJ82.out; first | omega | exact Nat.le_refl _⟩, ⟨by (with_reducible repeat (first | apply Kd.R_alloc | apply Kd.R_drewN | apply Kd.R_drew)); exact HO232.out⟩, ⟨by (with_reducible repeat (first | refine blk_drewN ?_ _ | refine blk_drew ?_ | refine blk_alloc ?_ _)); exact BK190.out⟩, ⟨by repeat (first | (with_reducible first | exact HB.out | apply below_alloc | apply pw_below_drewN | apply below_drew1 | refine below_set ?_ GE190.out) | exact HB.out)⟩⟩
                                   ·rw [if_neg c94] at H
                                    exact absurd H (by simp)
                                 case rest => as_aux_lemma =>
                                  clear HC90
                                  (try clear hcz91_0); (try clear hcz91_1); (try clear hcz91_2); (try clear hcz91_3); (try clear hcz91_4); (try clear hcz91_5); (try clear hcz91_6); (try clear hcz91_7); (try clear hfz91_0); (try clear hfz91_1); (try clear hfz91_2); (try clear hfz91_3); (try clear hfz91_4); (try clear hfz91_5); (try clear hfz91_6); (try clear hfz91_7)
                                  obtain ⟨kq, x3_89, HA, HJ89, HO_3, BK190, HB⟩ := hcut
                                  cases kq with
                                  | zero => exact absurd HA.out (by simp [entrepotref08_Check.j15])
                                  | succ kj89 =>
                                   have H := HA.out
                                   clear HA
                                   simp only [entrepotref08_Check.j15] at H
                                   replace H := Option.bind_eq_some_iff.mp H
                                   obtain ⟨t233, A960, H⟩ := H
                                   replace H : (if t233 = true then ((entrepotref08_mate.f kj89 a0_0 a0_1 a0_2 a0_3 a0_4 a0_5 l0_6 l0_7 x5_13).bind fun t234 => (if t234 = true then (entrepotref08_Check.l0 kj89 x3_89 (l0_6.length : Int) (wrap64 (x5_13 + 1)) a0_0 a0_1 a0_2 a0_3 a0_4 a0_5 l0_6 l0_7) else (if x3_89.length < 8796093022208 then (entrepotref08_Check.l0 kj89 (x3_89 ++ [(⟨13, x5_13⟩ : S58)]) (l0_6.length : Int) (wrap64 (x5_13 + 1)) a0_0 a0_1 a0_2 a0_3 a0_4 a0_5 l0_6 l0_7) else (none)))) else (if x3_89.length < 8796093022208 then ((some (x3_89 ++ [(⟨12, x5_13⟩ : S58)] : List (S58))).bind fun y238 => ((entrepotref08_mate.f kj89 a0_0 a0_1 a0_2 a0_3 a0_4 a0_5 l0_6 l0_7 x5_13).bind fun t241 => (if t241 = true then (entrepotref08_Check.l0 kj89 y238 (l0_6.length : Int) (wrap64 (x5_13 + 1)) a0_0 a0_1 a0_2 a0_3 a0_4 a0_5 l0_6 l0_7) else (if y238.length < 8796093022208 then (entrepotref08_Check.l0 kj89 (y238 ++ [(⟨13, x5_13⟩ : S58)]) (l0_6.length : Int) (wrap64 (x5_13 + 1)) a0_0 a0_1 a0_2 a0_3 a0_4 a0_5 l0_6 l0_7) else (none))))) else (none))) = some r := H
                                   have A96 := Aside0.mk A960
                                   clear A960
                                   by_cases c97 : t233 = true
                                   ·subst c97
                                    have H1 : ((entrepotref08_mate.f kj89 a0_0 a0_1 a0_2 a0_3 a0_4 a0_5 l0_6 l0_7 x5_13).bind fun t234 => (if t234 = true then (entrepotref08_Check.l0 kj89 x3_89 (l0_6.length : Int) (wrap64 (x5_13 + 1)) a0_0 a0_1 a0_2 a0_3 a0_4 a0_5 l0_6 l0_7) else (if x3_89.length < 8796093022208 then (entrepotref08_Check.l0 kj89 (x3_89 ++ [(⟨13, x5_13⟩ : S58)]) (l0_6.length : Int) (wrap64 (x5_13 + 1)) a0_0 a0_1 a0_2 a0_3 a0_4 a0_5 l0_6 l0_7) else (none)))) = some r := by rw [if_pos rfl] at H; exact H
                                    clear H
                                    have H := H1
                                    clear H1
                                    replace H := Option.bind_eq_some_iff.mp H
                                    obtain ⟨t234, A980, H⟩ := H
                                    replace H : (if t234 = true then (entrepotref08_Check.l0 kj89 x3_89 (l0_6.length : Int) (wrap64 (x5_13 + 1)) a0_0 a0_1 a0_2 a0_3 a0_4 a0_5 l0_6 l0_7) else (if x3_89.length < 8796093022208 then (entrepotref08_Check.l0 kj89 (x3_89 ++ [(⟨13, x5_13⟩ : S58)]) (l0_6.length : Int) (wrap64 (x5_13 + 1)) a0_0 a0_1 a0_2 a0_3 a0_4 a0_5 l0_6 l0_7) else (none))) = some r := H
                                    have A98 := Aside0.mk A980
                                    clear A980
                                    by_cases c99 : t234 = true
                                    ·subst c99
                                     have H1 : (entrepotref08_Check.l0 kj89 x3_89 (l0_6.length : Int) (wrap64 (x5_13 + 1)) a0_0 a0_1 a0_2 a0_3 a0_4 a0_5 l0_6 l0_7) = some r := by rw [if_pos rfl] at H; exact H
                                     clear H
                                     have H := H1
                                     clear H1
                                     have H' := Aside0.mk H
                                     clear H
                                     obtain ⟨hcz100_0, hcz100_1, hcz100_2, hcz100_3, hcz100_4, hcz100_5, hcz100_6, hcz100_7, hfz100_0, hfz100_1, hfz100_2, hfz100_3, hfz100_4, hfz100_5, hfz100_6, hfz100_7⟩ := blk8_ BK190.out
                                     go_wp2_with (first | ((with_reducible refine gate_callee (f := 40) rfl ?_); refine goesL_ (some 165) rfl rfl Try.func40 (by kernel_rfl) rfl #[.agg #[.string a0_0, .int .i64 a0_1, .int .i64 a0_2, .int .i64 a0_3, .int .i64 a0_4, .int .i64 a0_5, .slice A0_6 l0_6.length c0_6, .slice A0_7 l0_7.length c0_7], .int .i64 x5_13] rfl (by (try simp only [List.map_toArray, List.map_cons, List.map_nil]); first | done | rfl | (simp only [List.length_drop, List.length_take]; rfl)) ?_; (with_reducible refine (entrepotref08_service.calls a0_0 a0_1 a0_2 a0_3 a0_4 a0_5 _ _ l0_6 _ _ l0_7 x5_13 true _ ?side1 ?side2 ?side3 ?side4 A96.out).mono ?_); (case side1 => repeat (first | exact (Kd.C_below HR0_6.out HB.out) | (with_reducible refine Kd.C_alloc ?_ _) | (with_reducible refine Kd.C_drewN ?_ _) | (with_reducible refine Kd.C_drew ?_))); (case side2 => exact HC0_6.out); (case side3 => repeat (first | exact (Kd.C_below HR0_7.out HB.out) | (with_reducible refine Kd.C_alloc ?_ _) | (with_reducible refine Kd.C_drewN ?_ _) | (with_reducible refine Kd.C_drew ?_))); (case side4 => exact HC0_7.out); rintro e w101 ⟨rfl, hb⟩; refine ⟨_, rfl, ?_⟩; have n0_ := Aside0.mk (Kd.R_below (by (with_reducible repeat (first | apply Kd.R_alloc | apply Kd.R_drewN | apply Kd.R_drew)); exact HO_3.out) hb); have n1_ := Aside0.mk (blk_below (g := gb190) (o := .cells #[.string a0_0, .int .i64 a0_1, .int .i64 a0_2, .int .i64 a0_3, .int .i64 a0_4, .int .i64 a0_5, .slice A0_6 l0_6.length c0_6, .slice A0_7 l0_7.length c0_7] 36 (0, 0)) (by (with_reducible repeat (first | refine blk_drewN ?_ _ | refine blk_drew ?_ | refine blk_alloc ?_ _)); exact BK190.out) hb); have n2_ := Aside0.mk (below_step (by repeat (first | (with_reducible first | exact HB.out | apply below_alloc | apply pw_below_drewN | apply below_drew1 | refine below_set ?_ GE190.out) | exact HB.out)) hb); clear HO_3; clear BK190; clear HB; have HO_3 := n0_; have BK190 := n1_; have HB := n2_; clear n0_ n1_ n2_; (try clear hb); (try clear hb2); (try clear hk); (try clear hi); obtain ⟨hcz102_0, hcz102_1, hcz102_2, hcz102_3, hcz102_4, hcz102_5, hcz102_6, hcz102_7, hfz102_0, hfz102_1, hfz102_2, hfz102_3, hfz102_4, hfz102_5, hfz102_6, hfz102_7⟩ := blk8_ BK190.out) | ((with_reducible refine gate_callee (f := 41) rfl ?_); refine goesL_ (some 174) rfl rfl Try.func41 (by kernel_rfl) rfl #[.agg #[.string a0_0, .int .i64 a0_1, .int .i64 a0_2, .int .i64 a0_3, .int .i64 a0_4, .int .i64 a0_5, .slice A0_6 l0_6.length c0_6, .slice A0_7 l0_7.length c0_7], .int .i64 x5_13] rfl (by (try simp only [List.map_toArray, List.map_cons, List.map_nil]); first | done | rfl | (simp only [List.length_drop, List.length_take]; rfl)) ?_; (with_reducible refine (entrepotref08_mate.calls kj89 a0_0 a0_1 a0_2 a0_3 a0_4 a0_5 _ _ l0_6 _ _ l0_7 x5_13 true _ ?side1 ?side2 ?side3 ?side4 A98.out).mono ?_); (case side1 => repeat (first | exact (Kd.C_below HR0_6.out HB.out) | (with_reducible refine Kd.C_alloc ?_ _) | (with_reducible refine Kd.C_drewN ?_ _) | (with_reducible refine Kd.C_drew ?_))); (case side2 => exact HC0_6.out); (case side3 => repeat (first | exact (Kd.C_below HR0_7.out HB.out) | (with_reducible refine Kd.C_alloc ?_ _) | (with_reducible refine Kd.C_drewN ?_ _) | (with_reducible refine Kd.C_drew ?_))); (case side4 => exact HC0_7.out); rintro e w103 ⟨rfl, hb⟩; refine ⟨_, rfl, ?_⟩; have n0_ := Aside0.mk (Kd.R_below (by (with_reducible repeat (first | apply Kd.R_alloc | apply Kd.R_drewN | apply Kd.R_drew)); exact HO_3.out) hb); have n1_ := Aside0.mk (blk_below (g := gb190) (o := .cells #[.string a0_0, .int .i64 a0_1, .int .i64 a0_2, .int .i64 a0_3, .int .i64 a0_4, .int .i64 a0_5, .slice A0_6 l0_6.length c0_6, .slice A0_7 l0_7.length c0_7] 36 (0, 0)) (by (with_reducible repeat (first | refine blk_drewN ?_ _ | refine blk_drew ?_ | refine blk_alloc ?_ _)); exact BK190.out) hb); have n2_ := Aside0.mk (below_step (by repeat (first | (with_reducible first | exact HB.out | apply below_alloc | apply pw_below_drewN | apply below_drew1 | refine below_set ?_ GE190.out) | exact HB.out)) hb); clear HO_3; clear BK190; clear HB; have HO_3 := n0_; have BK190 := n1_; have HB := n2_; clear n0_ n1_ n2_; (try clear hb); (try clear hb2); (try clear hk); (try clear hi)))
                                     go_roundg kj89
                                     case measure => have := HJ2.out; have := HJ10.out; have := HJ14.out; have := HJ19.out; have := HJ24.out; have := HJ32.out; have := HJ36.out; have := HJ44.out; have := HJ48.out; have := HJ56.out; have := HJ60.out; have := HJ67.out; have := HK13.out; have := HJ75.out; have := HJ82.out; have := HJ89.out; omega
                                     case rel => exact ⟨(x3_89), (wrap64 (x5_13 + 1)), (by first | rfl | (simp; done) | (simp [*]; done)), H', ⟨by have := HJ2.out; have := HJ10.out; have := HJ14.out; have := HJ19.out; have := HJ24.out; have := HJ32.out; have := HJ36.out; have := HJ44.out; have := HJ48.out; have := HJ56.out; have := HJ60.out; have := HJ67.out; have := HK13.out; have := HJ75.out; have := HJ82.out; have := HJ89.out; omega⟩, ⟨by (with_reducible repeat (first | apply Kd.R_alloc | apply Kd.R_drewN | apply Kd.R_drew)); exact HO_3.out⟩, ⟨by (with_reducible repeat (first | refine blk_drewN ?_ _ | refine blk_drew ?_ | refine blk_alloc ?_ _)); exact BK190.out⟩, ⟨by repeat (first | (with_reducible first | exact HB.out | apply below_alloc | apply pw_below_drewN | apply below_drew1 | refine below_set ?_ GE190.out) | exact HB.out)⟩⟩
                                    ·replace c99 := Bool.eq_false_iff.mpr c99
                                     subst c99
                                     have H1 : (if x3_89.length < 8796093022208 then (entrepotref08_Check.l0 kj89 (x3_89 ++ [(⟨13, x5_13⟩ : S58)]) (l0_6.length : Int) (wrap64 (x5_13 + 1)) a0_0 a0_1 a0_2 a0_3 a0_4 a0_5 l0_6 l0_7) else (none)) = some r := by rw [if_neg (show ¬ (false = true) by decide)] at H; exact H
                                     clear H
                                     have H := H1
                                     clear H1
                                     by_cases c104 : x3_89.length < 8796093022208
                                     ·rw [if_pos c104] at H
                                      have LMc104 := Aside0.mk c104
                                      clear c104
                                      obtain ⟨y235, hy235⟩ : ∃ y_ : List (S58), y_ = (x3_89 ++ [(⟨13, x5_13⟩ : S58)]) := ⟨_, rfl⟩
                                      replace H : (entrepotref08_Check.l0 kj89 y235 (l0_6.length : Int) (wrap64 (x5_13 + 1)) a0_0 a0_1 a0_2 a0_3 a0_4 a0_5 l0_6 l0_7) = some r := by first | (rw [hy235]; with_reducible exact H) | (have H2_ := (Option.bind_some _ _).symm.trans H; rw [hy235]; with_reducible exact H2_) | (have H2_ := (Option.bind_some _ _).symm.trans H; with_reducible exact H2_) | with_reducible exact H | (rw [hy235]; exact H) | exact H
                                      have Ny235 := Aside0.mk hy235
                                      clear hy235
                                      have H' := Aside0.mk H
                                      clear H
                                      obtain ⟨hcz105_0, hcz105_1, hcz105_2, hcz105_3, hcz105_4, hcz105_5, hcz105_6, hcz105_7, hfz105_0, hfz105_1, hfz105_2, hfz105_3, hfz105_4, hfz105_5, hfz105_6, hfz105_7⟩ := blk8_ BK190.out
                                      go_wp2_with (first | ((with_reducible refine gate_callee (f := 40) rfl ?_); refine goesL_ (some 165) rfl rfl Try.func40 (by kernel_rfl) rfl #[.agg #[.string a0_0, .int .i64 a0_1, .int .i64 a0_2, .int .i64 a0_3, .int .i64 a0_4, .int .i64 a0_5, .slice A0_6 l0_6.length c0_6, .slice A0_7 l0_7.length c0_7], .int .i64 x5_13] rfl (by (try simp only [List.map_toArray, List.map_cons, List.map_nil]); first | done | rfl | (simp only [List.length_drop, List.length_take]; rfl)) ?_; (with_reducible refine (entrepotref08_service.calls a0_0 a0_1 a0_2 a0_3 a0_4 a0_5 _ _ l0_6 _ _ l0_7 x5_13 true _ ?side1 ?side2 ?side3 ?side4 A96.out).mono ?_); (case side1 => repeat (first | exact (Kd.C_below HR0_6.out HB.out) | (with_reducible refine Kd.C_alloc ?_ _) | (with_reducible refine Kd.C_drewN ?_ _) | (with_reducible refine Kd.C_drew ?_))); (case side2 => exact HC0_6.out); (case side3 => repeat (first | exact (Kd.C_below HR0_7.out HB.out) | (with_reducible refine Kd.C_alloc ?_ _) | (with_reducible refine Kd.C_drewN ?_ _) | (with_reducible refine Kd.C_drew ?_))); (case side4 => exact HC0_7.out); rintro e w106 ⟨rfl, hb⟩; refine ⟨_, rfl, ?_⟩; have n0_ := Aside0.mk (Kd.R_below (by (with_reducible repeat (first | apply Kd.R_alloc | apply Kd.R_drewN | apply Kd.R_drew)); exact HO_3.out) hb); have n1_ := Aside0.mk (blk_below (g := gb190) (o := .cells #[.string a0_0, .int .i64 a0_1, .int .i64 a0_2, .int .i64 a0_3, .int .i64 a0_4, .int .i64 a0_5, .slice A0_6 l0_6.length c0_6, .slice A0_7 l0_7.length c0_7] 36 (0, 0)) (by (with_reducible repeat (first | refine blk_drewN ?_ _ | refine blk_drew ?_ | refine blk_alloc ?_ _)); exact BK190.out) hb); have n2_ := Aside0.mk (below_step (by repeat (first | (with_reducible first | exact HB.out | apply below_alloc | apply pw_below_drewN | apply below_drew1 | refine below_set ?_ GE190.out) | exact HB.out)) hb); clear HO_3; clear BK190; clear HB; have HO_3 := n0_; have BK190 := n1_; have HB := n2_; clear n0_ n1_ n2_; (try clear hb); (try clear hb2); (try clear hk); (try clear hi); obtain ⟨hcz107_0, hcz107_1, hcz107_2, hcz107_3, hcz107_4, hcz107_5, hcz107_6, hcz107_7, hfz107_0, hfz107_1, hfz107_2, hfz107_3, hfz107_4, hfz107_5, hfz107_6, hfz107_7⟩ := blk8_ BK190.out) | ((with_reducible refine gate_callee (f := 41) rfl ?_); refine goesL_ (some 174) rfl rfl Try.func41 (by kernel_rfl) rfl #[.agg #[.string a0_0, .int .i64 a0_1, .int .i64 a0_2, .int .i64 a0_3, .int .i64 a0_4, .int .i64 a0_5, .slice A0_6 l0_6.length c0_6, .slice A0_7 l0_7.length c0_7], .int .i64 x5_13] rfl (by (try simp only [List.map_toArray, List.map_cons, List.map_nil]); first | done | rfl | (simp only [List.length_drop, List.length_take]; rfl)) ?_; (with_reducible refine (entrepotref08_mate.calls kj89 a0_0 a0_1 a0_2 a0_3 a0_4 a0_5 _ _ l0_6 _ _ l0_7 x5_13 false _ ?side1 ?side2 ?side3 ?side4 A98.out).mono ?_); (case side1 => repeat (first | exact (Kd.C_below HR0_6.out HB.out) | (with_reducible refine Kd.C_alloc ?_ _) | (with_reducible refine Kd.C_drewN ?_ _) | (with_reducible refine Kd.C_drew ?_))); (case side2 => exact HC0_6.out); (case side3 => repeat (first | exact (Kd.C_below HR0_7.out HB.out) | (with_reducible refine Kd.C_alloc ?_ _) | (with_reducible refine Kd.C_drewN ?_ _) | (with_reducible refine Kd.C_drew ?_))); (case side4 => exact HC0_7.out); rintro e w108 ⟨rfl, hb⟩; refine ⟨_, rfl, ?_⟩; have n0_ := Aside0.mk (Kd.R_below (by (with_reducible repeat (first | apply Kd.R_alloc | apply Kd.R_drewN | apply Kd.R_drew)); exact HO_3.out) hb); have n1_ := Aside0.mk (blk_below (g := gb190) (o := .cells #[.string a0_0, .int .i64 a0_1, .int .i64 a0_2, .int .i64 a0_3, .int .i64 a0_4, .int .i64 a0_5, .slice A0_6 l0_6.length c0_6, .slice A0_7 l0_7.length c0_7] 36 (0, 0)) (by (with_reducible repeat (first | refine blk_drewN ?_ _ | refine blk_drew ?_ | refine blk_alloc ?_ _)); exact BK190.out) hb); have n2_ := Aside0.mk (below_step (by repeat (first | (with_reducible first | exact HB.out | apply below_alloc | apply pw_below_drewN | apply below_drew1 | refine below_set ?_ GE190.out) | exact HB.out)) hb); clear HO_3; clear BK190; clear HB; have HO_3 := n0_; have BK190 := n1_; have HB := n2_; clear n0_ n1_ n2_; (try clear hb); (try clear hb2); (try clear hk); (try clear hi)) | ((with_reducible refine gate_builtin (b := .append) (xs := #[.tmp 176, .tmp 179]) rfl ?_); at_builtin; refine Kd.R_append k58 (w0 := w) w.heap.size rfl (.tmp 176) (.tmp 179) 31 58 (.agg #[(.int .i64 0), (.int .i64 0)]) 16 rfl Try.underlying31 info58 rfl (by decide) (by omega) u3 x3_89 (⟨13, x5_13⟩ : S58) [.int .i64 13, .int .i64 x5_13] (fun _ => True) (fun _ => False) rfl rfl ?aP (fun _ hk => hk.elim) ?aF ?aO ?aB ?aS ?aL ?_; (case aP => exact k58_mkM _ _ _ (⟨13, x5_13⟩ : S58)); (case aB => exact (by repeat (first | (with_reducible first | exact HB.out | apply below_alloc | apply pw_below_drewN | apply below_drew1 | refine below_set ?_ GE190.out) | exact HB.out))); (case aF => exact (fun _ _ => trivial)); (case aO => exact (by (with_reducible repeat (first | apply Kd.R_alloc | apply Kd.R_drewN | apply Kd.R_drew)); exact HO_3.out)); (case aS => exact (below_size (by repeat (first | (with_reducible first | exact HB.out | apply below_alloc | apply pw_below_drewN | apply below_drew1 | refine below_set ?_ GE190.out) | exact HB.out)))); (case aL => have := LMc104.out; omega); intro v236 w109 ho hb hg hat; rw [← Ny235.out] at ho; have n0_ := Aside0.mk (blk_grown (g := gb190) (o := .cells #[.string a0_0, .int .i64 a0_1, .int .i64 a0_2, .int .i64 a0_3, .int .i64 a0_4, .int .i64 a0_5, .slice A0_6 l0_6.length c0_6, .slice A0_7 l0_7.length c0_7] 36 (0, 0)) (by (with_reducible repeat (first | refine blk_drewN ?_ _ | refine blk_drew ?_ | refine blk_alloc ?_ _)); exact BK190.out) hg (Kd.R_ne HO_3.out BK190.out (by decide))); have n1_ := Aside0.mk (hb); have n2_ := Aside0.mk (ho); clear BK190; clear HB; clear HO_3; have BK190 := n0_; have HB := n1_; have HO237 := n2_; clear n0_ n1_ n2_; clear ho hb hg hat))
                                      go_roundg kj89
                                      case measure => have := HJ2.out; have := HJ10.out; have := HJ14.out; have := HJ19.out; have := HJ24.out; have := HJ32.out; have := HJ36.out; have := HJ44.out; have := HJ48.out; have := HJ56.out; have := HJ60.out; have := HJ67.out; have := HK13.out; have := HJ75.out; have := HJ82.out; have := HJ89.out; omega
                                      case rel => exact ⟨(y235), (wrap64 (x5_13 + 1)), (by first | rfl | (simp; done) | (simp [*]; done)), H', ⟨by have := HJ2.out; have := HJ10.out; have := HJ14.out; have := HJ19.out; have := HJ24.out; have := HJ32.out; have := HJ36.out; have := HJ44.out; have := HJ48.out; have := HJ56.out; have := HJ60.out; have := HJ67.out; have := HK13.out; have := HJ75.out; have := HJ82.out; have := HJ89.out; omega⟩, ⟨by (with_reducible repeat (first | apply Kd.R_alloc | apply Kd.R_drewN | apply Kd.R_drew)); exact HO237.out⟩, ⟨by (with_reducible repeat (first | refine blk_drewN ?_ _ | refine blk_drew ?_ | refine blk_alloc ?_ _)); exact BK190.out⟩, ⟨by repeat (first | (with_reducible first | exact HB.out | apply below_alloc | apply pw_below_drewN | apply below_drew1 | refine below_set ?_ GE190.out) | exact HB.out)⟩⟩
                                     ·rw [if_neg c104] at H
                                      exact absurd H (by simp)
                                   ·replace c97 := Bool.eq_false_iff.mpr c97
                                    subst c97
                                    have H1 : (if x3_89.length < 8796093022208 then ((some (x3_89 ++ [(⟨12, x5_13⟩ : S58)] : List (S58))).bind fun y238 => ((entrepotref08_mate.f kj89 a0_0 a0_1 a0_2 a0_3 a0_4 a0_5 l0_6 l0_7 x5_13).bind fun t241 => (if t241 = true then (entrepotref08_Check.l0 kj89 y238 (l0_6.length : Int) (wrap64 (x5_13 + 1)) a0_0 a0_1 a0_2 a0_3 a0_4 a0_5 l0_6 l0_7) else (if y238.length < 8796093022208 then (entrepotref08_Check.l0 kj89 (y238 ++ [(⟨13, x5_13⟩ : S58)]) (l0_6.length : Int) (wrap64 (x5_13 + 1)) a0_0 a0_1 a0_2 a0_3 a0_4 a0_5 l0_6 l0_7) else (none))))) else (none)) = some r := by rw [if_neg (show ¬ (false = true) by decide)] at H; exact H
                                    clear H
                                    have H := H1
                                    clear H1
                                    by_cases c110 : x3_89.length < 8796093022208
                                    ·rw [if_pos c110] at H
                                     have LMc110 := Aside0.mk c110
                                     clear c110
                                     obtain ⟨y238, hy238⟩ : ∃ y_ : List (S58), y_ = (x3_89 ++ [(⟨12, x5_13⟩ : S58)]) := ⟨_, rfl⟩
                                     replace H : ((entrepotref08_mate.f kj89 a0_0 a0_1 a0_2 a0_3 a0_4 a0_5 l0_6 l0_7 x5_13).bind fun t241 => (if t241 = true then (entrepotref08_Check.l0 kj89 y238 (l0_6.length : Int) (wrap64 (x5_13 + 1)) a0_0 a0_1 a0_2 a0_3 a0_4 a0_5 l0_6 l0_7) else (if y238.length < 8796093022208 then (entrepotref08_Check.l0 kj89 (y238 ++ [(⟨13, x5_13⟩ : S58)]) (l0_6.length : Int) (wrap64 (x5_13 + 1)) a0_0 a0_1 a0_2 a0_3 a0_4 a0_5 l0_6 l0_7) else (none)))) = some r := by first | (rw [hy238]; with_reducible exact H) | (have H2_ := (Option.bind_some _ _).symm.trans H; rw [hy238]; with_reducible exact H2_) | (have H2_ := (Option.bind_some _ _).symm.trans H; with_reducible exact H2_) | with_reducible exact H | (rw [hy238]; exact H) | exact H
                                     have Ny238 := Aside0.mk hy238
                                     clear hy238
                                     replace H := Option.bind_eq_some_iff.mp H
                                     obtain ⟨t241, A1110, H⟩ := H
                                     replace H : (if t241 = true then (entrepotref08_Check.l0 kj89 y238 (l0_6.length : Int) (wrap64 (x5_13 + 1)) a0_0 a0_1 a0_2 a0_3 a0_4 a0_5 l0_6 l0_7) else (if y238.length < 8796093022208 then (entrepotref08_Check.l0 kj89 (y238 ++ [(⟨13, x5_13⟩ : S58)]) (l0_6.length : Int) (wrap64 (x5_13 + 1)) a0_0 a0_1 a0_2 a0_3 a0_4 a0_5 l0_6 l0_7) else (none))) = some r := H
                                     have A111 := Aside0.mk A1110
                                     clear A1110
                                     by_cases c112 : t241 = true
                                     ·subst c112
                                      have H1 : (entrepotref08_Check.l0 kj89 y238 (l0_6.length : Int) (wrap64 (x5_13 + 1)) a0_0 a0_1 a0_2 a0_3 a0_4 a0_5 l0_6 l0_7) = some r := by rw [if_pos rfl] at H; exact H
                                      clear H
                                      have H := H1
                                      clear H1
                                      have H' := Aside0.mk H
                                      clear H
                                      obtain ⟨hcz113_0, hcz113_1, hcz113_2, hcz113_3, hcz113_4, hcz113_5, hcz113_6, hcz113_7, hfz113_0, hfz113_1, hfz113_2, hfz113_3, hfz113_4, hfz113_5, hfz113_6, hfz113_7⟩ := blk8_ BK190.out
                                      go_wp2_with (first | ((with_reducible refine gate_callee (f := 40) rfl ?_); refine goesL_ (some 165) rfl rfl Try.func40 (by kernel_rfl) rfl #[.agg #[.string a0_0, .int .i64 a0_1, .int .i64 a0_2, .int .i64 a0_3, .int .i64 a0_4, .int .i64 a0_5, .slice A0_6 l0_6.length c0_6, .slice A0_7 l0_7.length c0_7], .int .i64 x5_13] rfl (by (try simp only [List.map_toArray, List.map_cons, List.map_nil]); first | done | rfl | (simp only [List.length_drop, List.length_take]; rfl)) ?_; (with_reducible refine (entrepotref08_service.calls a0_0 a0_1 a0_2 a0_3 a0_4 a0_5 _ _ l0_6 _ _ l0_7 x5_13 false _ ?side1 ?side2 ?side3 ?side4 A96.out).mono ?_); (case side1 => repeat (first | exact (Kd.C_below HR0_6.out HB.out) | (with_reducible refine Kd.C_alloc ?_ _) | (with_reducible refine Kd.C_drewN ?_ _) | (with_reducible refine Kd.C_drew ?_))); (case side2 => exact HC0_6.out); (case side3 => repeat (first | exact (Kd.C_below HR0_7.out HB.out) | (with_reducible refine Kd.C_alloc ?_ _) | (with_reducible refine Kd.C_drewN ?_ _) | (with_reducible refine Kd.C_drew ?_))); (case side4 => exact HC0_7.out); rintro e w114 ⟨rfl, hb⟩; refine ⟨_, rfl, ?_⟩; have n0_ := Aside0.mk (Kd.R_below (by (with_reducible repeat (first | apply Kd.R_alloc | apply Kd.R_drewN | apply Kd.R_drew)); exact HO_3.out) hb); have n1_ := Aside0.mk (blk_below (g := gb190) (o := .cells #[.string a0_0, .int .i64 a0_1, .int .i64 a0_2, .int .i64 a0_3, .int .i64 a0_4, .int .i64 a0_5, .slice A0_6 l0_6.length c0_6, .slice A0_7 l0_7.length c0_7] 36 (0, 0)) (by (with_reducible repeat (first | refine blk_drewN ?_ _ | refine blk_drew ?_ | refine blk_alloc ?_ _)); exact BK190.out) hb); have n2_ := Aside0.mk (below_step (by repeat (first | (with_reducible first | exact HB.out | apply below_alloc | apply pw_below_drewN | apply below_drew1 | refine below_set ?_ GE190.out) | exact HB.out)) hb); clear HO_3; clear BK190; clear HB; have HO_3 := n0_; have BK190 := n1_; have HB := n2_; clear n0_ n1_ n2_; (try clear hb); (try clear hb2); (try clear hk); (try clear hi)) | ((with_reducible refine gate_builtin (b := .append) (xs := #[.tmp 167, .tmp 170]) rfl ?_); at_builtin; refine Kd.R_append k58 (w0 := w) w.heap.size rfl (.tmp 167) (.tmp 170) 31 58 (.agg #[(.int .i64 0), (.int .i64 0)]) 16 rfl Try.underlying31 info58 rfl (by decide) (by omega) u3 x3_89 (⟨12, x5_13⟩ : S58) [.int .i64 12, .int .i64 x5_13] (fun _ => True) (fun _ => False) rfl rfl ?aP (fun _ hk => hk.elim) ?aF ?aO ?aB ?aS ?aL ?_; (case aP => exact k58_mkM _ _ _ (⟨12, x5_13⟩ : S58)); (case aB => exact (by repeat (first | (with_reducible first | exact HB.out | apply below_alloc | apply pw_below_drewN | apply below_drew1 | refine below_set ?_ GE190.out) | exact HB.out))); (case aF => exact (fun _ _ => trivial)); (case aO => exact (by (with_reducible repeat (first | apply Kd.R_alloc | apply Kd.R_drewN | apply Kd.R_drew)); exact HO_3.out)); (case aS => exact (below_size (by repeat (first | (with_reducible first | exact HB.out | apply below_alloc | apply pw_below_drewN | apply below_drew1 | refine below_set ?_ GE190.out) | exact HB.out)))); (case aL => have := LMc110.out; omega); intro v239 w115 ho hb hg hat; rw [← Ny238.out] at ho; have n0_ := Aside0.mk (blk_grown (g := gb190) (o := .cells #[.string a0_0, .int .i64 a0_1, .int .i64 a0_2, .int .i64 a0_3, .int .i64 a0_4, .int .i64 a0_5, .slice A0_6 l0_6.length c0_6, .slice A0_7 l0_7.length c0_7] 36 (0, 0)) (by (with_reducible repeat (first | refine blk_drewN ?_ _ | refine blk_drew ?_ | refine blk_alloc ?_ _)); exact BK190.out) hg (Kd.R_ne HO_3.out BK190.out (by decide))); have n1_ := Aside0.mk (hb); have n2_ := Aside0.mk (ho); clear BK190; clear HB; clear HO_3; have BK190 := n0_; have HB := n1_; have HO240 := n2_; clear n0_ n1_ n2_; clear ho hb hg hat; obtain ⟨hcz116_0, hcz116_1, hcz116_2, hcz116_3, hcz116_4, hcz116_5, hcz116_6, hcz116_7, hfz116_0, hfz116_1, hfz116_2, hfz116_3, hfz116_4, hfz116_5, hfz116_6, hfz116_7⟩ := blk8_ BK190.out) | ((with_reducible refine gate_callee (f := 41) rfl ?_); refine goesL_ (some 174) rfl rfl Try.func41 (by kernel_rfl) rfl #[.agg #[.string a0_0, .int .i64 a0_1, .int .i64 a0_2, .int .i64 a0_3, .int .i64 a0_4, .int .i64 a0_5, .slice A0_6 l0_6.length c0_6, .slice A0_7 l0_7.length c0_7], .int .i64 x5_13] rfl (by (try simp only [List.map_toArray, List.map_cons, List.map_nil]); first | done | rfl | (simp only [List.length_drop, List.length_take]; rfl)) ?_; (with_reducible refine (entrepotref08_mate.calls kj89 a0_0 a0_1 a0_2 a0_3 a0_4 a0_5 _ _ l0_6 _ _ l0_7 x5_13 true _ ?side1 ?side2 ?side3 ?side4 A111.out).mono ?_); (case side1 => repeat (first | exact (Kd.C_below HR0_6.out HB.out) | (with_reducible refine Kd.C_alloc ?_ _) | (with_reducible refine Kd.C_drewN ?_ _) | (with_reducible refine Kd.C_drew ?_))); (case side2 => exact HC0_6.out); (case side3 => repeat (first | exact (Kd.C_below HR0_7.out HB.out) | (with_reducible refine Kd.C_alloc ?_ _) | (with_reducible refine Kd.C_drewN ?_ _) | (with_reducible refine Kd.C_drew ?_))); (case side4 => exact HC0_7.out); rintro e w117 ⟨rfl, hb⟩; refine ⟨_, rfl, ?_⟩; have n0_ := Aside0.mk (Kd.R_below (by (with_reducible repeat (first | apply Kd.R_alloc | apply Kd.R_drewN | apply Kd.R_drew)); exact HO240.out) hb); have n1_ := Aside0.mk (blk_below (g := gb190) (o := .cells #[.string a0_0, .int .i64 a0_1, .int .i64 a0_2, .int .i64 a0_3, .int .i64 a0_4, .int .i64 a0_5, .slice A0_6 l0_6.length c0_6, .slice A0_7 l0_7.length c0_7] 36 (0, 0)) (by (with_reducible repeat (first | refine blk_drewN ?_ _ | refine blk_drew ?_ | refine blk_alloc ?_ _)); exact BK190.out) hb); have n2_ := Aside0.mk (below_step (by repeat (first | (with_reducible first | exact HB.out | apply below_alloc | apply pw_below_drewN | apply below_drew1 | refine below_set ?_ GE190.out) | exact HB.out)) hb); clear HO240; clear BK190; clear HB; have HO240 := n0_; have BK190 := n1_; have HB := n2_; clear n0_ n1_ n2_; (try clear hb); (try clear hb2); (try clear hk); (try clear hi)))
                                      go_roundg kj89
                                      case measure => have := HJ2.out; have := HJ10.out; have := HJ14.out; have := HJ19.out; have := HJ24.out; have := HJ32.out; have := HJ36.out; have := HJ44.out; have := HJ48.out; have := HJ56.out; have := HJ60.out; have := HJ67.out; have := HK13.out; have := HJ75.out; have := HJ82.out; have := HJ89.out; omega
                                      case rel => exact ⟨(y238), (wrap64 (x5_13 + 1)), (by first | rfl | (simp; done) | (simp [*]; done)), H', ⟨by have := HJ2.out; have := HJ10.out; have := HJ14.out; have := HJ19.out; have := HJ24.out; have := HJ32.out; have := HJ36.out; have := HJ44.out; have := HJ48.out; have := HJ56.out; have := HJ60.out; have := HJ67.out; have := HK13.out; have := HJ75.out; have := HJ82.out; have := HJ89.out; omega⟩, ⟨by (with_reducible repeat (first | apply Kd.R_alloc | apply Kd.R_drewN | apply Kd.R_drew)); exact HO240.out⟩, ⟨by (with_reducible repeat (first | refine blk_drewN ?_ _ | refine blk_drew ?_ | refine blk_alloc ?_ _)); exact BK190.out⟩, ⟨by repeat (first | (with_reducible first | exact HB.out | apply below_alloc | apply pw_below_drewN | apply below_drew1 | refine below_set ?_ GE190.out) | exact HB.out)⟩⟩
                                     ·replace c112 := Bool.eq_false_iff.mpr c112
                                      subst c112
                                      have H1 : (if y238.length < 8796093022208 then (entrepotref08_Check.l0 kj89 (y238 ++ [(⟨13, x5_13⟩ : S58)]) (l0_6.length : Int) (wrap64 (x5_13 + 1)) a0_0 a0_1 a0_2 a0_3 a0_4 a0_5 l0_6 l0_7) else (none)) = some r := by rw [if_neg (show ¬ (false = true) by decide)] at H; exact H
                                      clear H
                                      have H := H1
                                      clear H1
                                      by_cases c118 : y238.length < 8796093022208
                                      ·rw [if_pos c118] at H
                                       have LMc118 := Aside0.mk c118
                                       clear c118
                                       obtain ⟨y242, hy242⟩ : ∃ y_ : List (S58), y_ = (y238 ++ [(⟨13, x5_13⟩ : S58)]) := ⟨_, rfl⟩
                                       replace H : (entrepotref08_Check.l0 kj89 y242 (l0_6.length : Int) (wrap64 (x5_13 + 1)) a0_0 a0_1 a0_2 a0_3 a0_4 a0_5 l0_6 l0_7) = some r := by first | (rw [hy242]; with_reducible exact H) | (have H2_ := (Option.bind_some _ _).symm.trans H; rw [hy242]; with_reducible exact H2_) | (have H2_ := (Option.bind_some _ _).symm.trans H; with_reducible exact H2_) | with_reducible exact H | (rw [hy242]; exact H) | exact H
                                       have Ny242 := Aside0.mk hy242
                                       clear hy242
                                       have H' := Aside0.mk H
                                       clear H
                                       obtain ⟨hcz119_0, hcz119_1, hcz119_2, hcz119_3, hcz119_4, hcz119_5, hcz119_6, hcz119_7, hfz119_0, hfz119_1, hfz119_2, hfz119_3, hfz119_4, hfz119_5, hfz119_6, hfz119_7⟩ := blk8_ BK190.out
                                       go_wp2_with (first | ((with_reducible refine gate_callee (f := 40) rfl ?_); refine goesL_ (some 165) rfl rfl Try.func40 (by kernel_rfl) rfl #[.agg #[.string a0_0, .int .i64 a0_1, .int .i64 a0_2, .int .i64 a0_3, .int .i64 a0_4, .int .i64 a0_5, .slice A0_6 l0_6.length c0_6, .slice A0_7 l0_7.length c0_7], .int .i64 x5_13] rfl (by (try simp only [List.map_toArray, List.map_cons, List.map_nil]); first | done | rfl | (simp only [List.length_drop, List.length_take]; rfl)) ?_; (with_reducible refine (entrepotref08_service.calls a0_0 a0_1 a0_2 a0_3 a0_4 a0_5 _ _ l0_6 _ _ l0_7 x5_13 false _ ?side1 ?side2 ?side3 ?side4 A96.out).mono ?_); (case side1 => repeat (first | exact (Kd.C_below HR0_6.out HB.out) | (with_reducible refine Kd.C_alloc ?_ _) | (with_reducible refine Kd.C_drewN ?_ _) | (with_reducible refine Kd.C_drew ?_))); (case side2 => exact HC0_6.out); (case side3 => repeat (first | exact (Kd.C_below HR0_7.out HB.out) | (with_reducible refine Kd.C_alloc ?_ _) | (with_reducible refine Kd.C_drewN ?_ _) | (with_reducible refine Kd.C_drew ?_))); (case side4 => exact HC0_7.out); rintro e w120 ⟨rfl, hb⟩; refine ⟨_, rfl, ?_⟩; have n0_ := Aside0.mk (Kd.R_below (by (with_reducible repeat (first | apply Kd.R_alloc | apply Kd.R_drewN | apply Kd.R_drew)); exact HO_3.out) hb); have n1_ := Aside0.mk (blk_below (g := gb190) (o := .cells #[.string a0_0, .int .i64 a0_1, .int .i64 a0_2, .int .i64 a0_3, .int .i64 a0_4, .int .i64 a0_5, .slice A0_6 l0_6.length c0_6, .slice A0_7 l0_7.length c0_7] 36 (0, 0)) (by (with_reducible repeat (first | refine blk_drewN ?_ _ | refine blk_drew ?_ | refine blk_alloc ?_ _)); exact BK190.out) hb); have n2_ := Aside0.mk (below_step (by repeat (first | (with_reducible first | exact HB.out | apply below_alloc | apply pw_below_drewN | apply below_drew1 | refine below_set ?_ GE190.out) | exact HB.out)) hb); clear HO_3; clear BK190; clear HB; have HO_3 := n0_; have BK190 := n1_; have HB := n2_; clear n0_ n1_ n2_; (try clear hb); (try clear hb2); (try clear hk); (try clear hi)) | ((with_reducible refine gate_builtin (b := .append) (xs := #[.tmp 167, .tmp 170]) rfl ?_); at_builtin; refine Kd.R_append k58 (w0 := w) w.heap.size rfl (.tmp 167) (.tmp 170) 31 58 (.agg #[(.int .i64 0), (.int .i64 0)]) 16 rfl Try.underlying31 info58 rfl (by decide) (by omega) u3 x3_89 (⟨12, x5_13⟩ : S58) [.int .i64 12, .int .i64 x5_13] (fun _ => True) (fun _ => False) rfl rfl ?aP (fun _ hk => hk.elim) ?aF ?aO ?aB ?aS ?aL ?_; (case aP => exact k58_mkM _ _ _ (⟨12, x5_13⟩ : S58)); (case aB => exact (by repeat (first | (with_reducible first | exact HB.out | apply below_alloc | apply pw_below_drewN | apply below_drew1 | refine below_set ?_ GE190.out) | exact HB.out))); (case aF => exact (fun _ _ => trivial)); (case aO => exact (by (with_reducible repeat (first | apply Kd.R_alloc | apply Kd.R_drewN | apply Kd.R_drew)); exact HO_3.out)); (case aS => exact (below_size (by repeat (first | (with_reducible first | exact HB.out | apply below_alloc | apply pw_below_drewN | apply below_drew1 | refine below_set ?_ GE190.out) | exact HB.out)))); (case aL => have := LMc110.out; omega); intro v239 w121 ho hb hg hat; rw [← Ny238.out] at ho; have n0_ := Aside0.mk (blk_grown (g := gb190) (o := .cells #[.string a0_0, .int .i64 a0_1, .int .i64 a0_2, .int .i64 a0_3, .int .i64 a0_4, .int .i64 a0_5, .slice A0_6 l0_6.length c0_6, .slice A0_7 l0_7.length c0_7] 36 (0, 0)) (by (with_reducible repeat (first | refine blk_drewN ?_ _ | refine blk_drew ?_ | refine blk_alloc ?_ _)); exact BK190.out) hg (Kd.R_ne HO_3.out BK190.out (by decide))); have n1_ := Aside0.mk (hb); have n2_ := Aside0.mk (ho); clear BK190; clear HB; clear HO_3; have BK190 := n0_; have HB := n1_; have HO240 := n2_; clear n0_ n1_ n2_; clear ho hb hg hat; obtain ⟨hcz122_0, hcz122_1, hcz122_2, hcz122_3, hcz122_4, hcz122_5, hcz122_6, hcz122_7, hfz122_0, hfz122_1, hfz122_2, hfz122_3, hfz122_4, hfz122_5, hfz122_6, hfz122_7⟩ := blk8_ BK190.out) | ((with_reducible refine gate_callee (f := 41) rfl ?_); refine goesL_ (some 174) rfl rfl Try.func41 (by kernel_rfl) rfl #[.agg #[.string a0_0, .int .i64 a0_1, .int .i64 a0_2, .int .i64 a0_3, .int .i64 a0_4, .int .i64 a0_5, .slice A0_6 l0_6.length c0_6, .slice A0_7 l0_7.length c0_7], .int .i64 x5_13] rfl (by (try simp only [List.map_toArray, List.map_cons, List.map_nil]); first | done | rfl | (simp only [List.length_drop, List.length_take]; rfl)) ?_; (with_reducible refine (entrepotref08_mate.calls kj89 a0_0 a0_1 a0_2 a0_3 a0_4 a0_5 _ _ l0_6 _ _ l0_7 x5_13 false _ ?side1 ?side2 ?side3 ?side4 A111.out).mono ?_); (case side1 => repeat (first | exact (Kd.C_below HR0_6.out HB.out) | (with_reducible refine Kd.C_alloc ?_ _) | (with_reducible refine Kd.C_drewN ?_ _) | (with_reducible refine Kd.C_drew ?_))); (case side2 => exact HC0_6.out); (case side3 => repeat (first | exact (Kd.C_below HR0_7.out HB.out) | (with_reducible refine Kd.C_alloc ?_ _) | (with_reducible refine Kd.C_drewN ?_ _) | (with_reducible refine Kd.C_drew ?_))); (case side4 => exact HC0_7.out); rintro e w123 ⟨rfl, hb⟩; refine ⟨_, rfl, ?_⟩; have n0_ := Aside0.mk (Kd.R_below (by (with_reducible repeat (first | apply Kd.R_alloc | apply Kd.R_drewN | apply Kd.R_drew)); exact HO240.out) hb); have n1_ := Aside0.mk (blk_below (g := gb190) (o := .cells #[.string a0_0, .int .i64 a0_1, .int .i64 a0_2, .int .i64 a0_3, .int .i64 a0_4, .int .i64 a0_5, .slice A0_6 l0_6.length c0_6, .slice A0_7 l0_7.length c0_7] 36 (0, 0)) (by (with_reducible repeat (first | refine blk_drewN ?_ _ | refine blk_drew ?_ | refine blk_alloc ?_ _)); exact BK190.out) hb); have n2_ := Aside0.mk (below_step (by repeat (first | (with_reducible first | exact HB.out | apply below_alloc | apply pw_below_drewN | apply below_drew1 | refine below_set ?_ GE190.out) | exact HB.out)) hb); clear HO240; clear BK190; clear HB; have HO240 := n0_; have BK190 := n1_; have HB := n2_; clear n0_ n1_ n2_; (try clear hb); (try clear hb2); (try clear hk); (try clear hi)) | ((with_reducible refine gate_builtin (b := .append) (xs := #[.tmp 176, .tmp 179]) rfl ?_); at_builtin; refine Kd.R_append k58 (w0 := w) w.heap.size rfl (.tmp 176) (.tmp 179) 31 58 (.agg #[(.int .i64 0), (.int .i64 0)]) 16 rfl Try.underlying31 info58 rfl (by decide) (by omega) v239 y238 (⟨13, x5_13⟩ : S58) [.int .i64 13, .int .i64 x5_13] (fun _ => True) (fun _ => False) rfl rfl ?aP (fun _ hk => hk.elim) ?aF ?aO ?aB ?aS ?aL ?_; (case aP => exact k58_mkM _ _ _ (⟨13, x5_13⟩ : S58)); (case aB => exact (by repeat (first | (with_reducible first | exact HB.out | apply below_alloc | apply pw_below_drewN | apply below_drew1 | refine below_set ?_ GE190.out) | exact HB.out))); (case aF => exact (fun _ _ => trivial)); (case aO => exact (by (with_reducible repeat (first | apply Kd.R_alloc | apply Kd.R_drewN | apply Kd.R_drew)); exact HO240.out)); (case aS => exact (below_size (by repeat (first | (with_reducible first | exact HB.out | apply below_alloc | apply pw_below_drewN | apply below_drew1 | refine below_set ?_ GE190.out) | exact HB.out)))); (case aL => have := LMc118.out; omega); intro v243 w124 ho hb hg hat; rw [← Ny242.out] at ho; have n0_ := Aside0.mk (blk_grown (g := gb190) (o := .cells #[.string a0_0, .int .i64 a0_1, .int .i64 a0_2, .int .i64 a0_3, .int .i64 a0_4, .int .i64 a0_5, .slice A0_6 l0_6.length c0_6, .slice A0_7 l0_7.length c0_7] 36 (0, 0)) (by (with_reducible repeat (first | refine blk_drewN ?_ _ | refine blk_drew ?_ | refine blk_alloc ?_ _)); exact BK190.out) hg (Kd.R_ne HO240.out BK190.out (by decide))); have n1_ := Aside0.mk (hb); have n2_ := Aside0.mk (ho); clear BK190; clear HB; clear HO240; have BK190 := n0_; have HB := n1_; have HO244 := n2_; clear n0_ n1_ n2_; clear ho hb hg hat))
                                       go_roundg kj89
                                       case measure => have := HJ2.out; have := HJ10.out; have := HJ14.out; have := HJ19.out; have := HJ24.out; have := HJ32.out; have := HJ36.out; have := HJ44.out; have := HJ48.out; have := HJ56.out; have := HJ60.out; have := HJ67.out; have := HK13.out; have := HJ75.out; have := HJ82.out; have := HJ89.out; omega
                                       case rel => exact ⟨(y242), (wrap64 (x5_13 + 1)), (by first | rfl | (simp; done) | (simp [*]; done)), H', ⟨by have := HJ2.out; have := HJ10.out; have := HJ14.out; have := HJ19.out; have := HJ24.out; have := HJ32.out; have := HJ36.out; have := HJ44.out; have := HJ48.out; have := HJ56.out; have := HJ60.out; have := HJ67.out; have := HK13.out; have := HJ75.out; have := HJ82.out; have := HJ89.out; omega⟩, ⟨by (with_reducible repeat (first | apply Kd.R_alloc | apply Kd.R_drewN | apply Kd.R_drew)); exact HO244.out⟩, ⟨by (with_reducible repeat (first | refine blk_drewN ?_ _ | refine blk_drew ?_ | refine blk_alloc ?_ _)); exact BK190.out⟩, ⟨by repeat (first | (with_reducible first | exact HB.out | apply below_alloc | apply pw_below_drewN | apply below_drew1 | refine below_set ?_ GE190.out) | exact HB.out)⟩⟩
                                      ·rw [if_neg c118] at H
                                       exact absurd H (by simp)
                                    ·rw [if_neg c110] at H
                                     exact absurd H (by simp)
                            ·rw [if_neg c74] at H
                             have c74b0 : decide (x5_13 < (l0_6.length : Int)) = false := decide_eq_false c74
                             clear c74
                             obtain rfl := Option.some.inj H
                             go_wp2
                             go_ret
                             exact ⟨_, by first | rfl | (simp [errW_none, errW_some] <;> rfl) | (simp [*, errW_none, errW_some] <;> rfl), by (with_reducible repeat (first | apply Kd.R_alloc | apply Kd.R_drewN | apply Kd.R_drew)); exact HO_3.out, by repeat (first | (with_reducible first | exact HB.out | apply below_alloc | apply pw_below_drewN | apply below_drew1 | refine below_set ?_ GE190.out) | exact HB.out)⟩

end Go.Proofs.Ytfnnngoandpgkaa.P
namespace Go.Proofs.Ytfnnngoandpgkaa.P
open Go.RowKit Go.Proofs.YtfnnngoandpgkaaW.PrintWords Go.Proofs.YtfnnngoandpgkaaW.PrintLast Go.Proofs.YtfnnngoandpgkaaW.PrintMore
attribute [local go_sem] max2_int min2_int max_two min_two max_three min_three max_four min_four   -- for this text's walks alone
set_option linter.unusedVariables false
set_option linter.unusedSimpArgs false

/-! ### entrepotref08_Well: function 21 -/
def entrepotref08_Well.f (k : Nat) (a0_0 : ByteArray) (a0_1 : Int) (a0_2 : Int) (a0_3 : Int) (a0_4 : Int) (a0_5 : Int) (l0_6 : List (S60)) (l0_7 : List Int) : Option (Bool) := (entrepotref08_Check.f k a0_0 a0_1 a0_2 a0_3 a0_4 a0_5 l0_6 l0_7).bind fun t435 => (some ((t435.length : Int) == 0))
theorem entrepotref08_Well.mono : ∀ a0 a1 a2 a3 a4 a5 a6 a7 k, LeO (entrepotref08_Well.f k a0 a1 a2 a3 a4 a5 a6 a7) (entrepotref08_Well.f (k + 1) a0 a1 a2 a3 a4 a5 a6 a7) := by
 intro a0 a1 a2 a3 a4 a5 a6 a7 k
 unfold entrepotref08_Well.f
 repeat' first
   | (with_reducible exact entrepotref08_Check.mono _ _ _ _ _ _ _ _ _)
   | (with_reducible exact LeO.refl _)
   | (with_reducible exact LeO.none _)
   | (with_reducible refine LeO.ite ?_ ?_)
   | (with_reducible refine LeO.bind ?_ (fun _ => ?_))
   | exact entrepotref08_Check.mono _ _ _ _ _ _ _ _ _
   | exact LeO.none _
   | refine LeO.ite ?_ ?_
   | refine LeO.bind ?_ (fun _ => ?_)
set_option maxHeartbeats 8000000 in
set_option maxRecDepth 100000 in
theorem entrepotref08_Well.calls (k : Nat) (a0_0 : ByteArray) (a0_1 : Int) (a0_2 : Int) (a0_3 : Int) (a0_4 : Int) (a0_5 : Int) (A0_6 : Option Addr) (c0_6 : Nat) (l0_6 : List (S60)) (A0_7 : Option Addr) (c0_7 : Nat) (l0_7 : List Int) (r : Bool) (w : World) (hr0_6 : Kd.C k60 w A0_6 l0_6.length l0_6) (hc0_6 : l0_6.length ≤ c0_6) (hr0_7 : Kd.C (Kd.int .i64) w A0_7 l0_7.length l0_7) (hc0_7 : l0_7.length ≤ c0_7) (h : entrepotref08_Well.f k a0_0 a0_1 a0_2 a0_3 a0_4 a0_5 l0_6 l0_7 = some r) :
  Calls Try.prog 21 #[.agg #[.string a0_0, .int .i64 a0_1, .int .i64 a0_2, .int .i64 a0_3, .int .i64 a0_4, .int .i64 a0_5, .slice A0_6 l0_6.length c0_6, .slice A0_7 l0_7.length c0_7]] w fun e w' => e = .returned (.bool r) ∧ Below w.heap.size w w' := by
 have hu36 := Try.underlying36
 have HR0_6 := Aside0.mk hr0_6
 have HC0_6 := Aside0.mk hc0_6
 clear hr0_6 hc0_6
 have HR0_7 := Aside0.mk hr0_7
 have HC0_7 := Aside0.mk hc0_7
 clear hr0_7 hc0_7
 have HB := Aside0.mk (Below.refl w.heap.size w)
 have H : ((entrepotref08_Check.f k a0_0 a0_1 a0_2 a0_3 a0_4 a0_5 l0_6 l0_7).bind fun t435 => (some ((t435.length : Int) == 0))) = some r := h
 clear h
 replace H := Option.bind_eq_some_iff.mp H
 obtain ⟨t435, A20, H⟩ := H
 replace H : (some ((t435.length : Int) == 0)) = some r := H
 have A2 := Aside0.mk A20
 clear A20
 obtain rfl := Option.some.inj H
 go_enter Try.func21, Try.ntmps21
 go_wp2_with (first | ((with_reducible refine gate_dst (N := 1) rfl ?_); refine box_event ?hg (N := 1) ?hd (cs := #[.string a0_0, .int .i64 a0_1, .int .i64 a0_2, .int .i64 a0_3, .int .i64 a0_4, .int .i64 a0_5, .slice A0_6 l0_6.length c0_6, .slice A0_7 l0_7.length c0_7]) (t := 36) ?hr ?_; (case hd => rfl); (case hg => rfl); (case hr => first | (go_simp; done) | (go_simp; rfl)); intro gb434 hg w3 hbox hb; have n0_ := Aside0.mk (below_step (by repeat (first | (with_reducible first | exact HB.out | apply below_alloc | apply pw_below_drewN | apply below_drew1) | exact HB.out)) hb); have n1_ := Aside0.mk (hbox); have n2_ := Aside0.mk ((by rw [hg]; exact (below_size (by repeat (first | (with_reducible first | exact HB.out | apply below_alloc | apply pw_below_drewN | apply below_drew1) | exact HB.out))) : w.heap.size ≤ gb434)); have n3_ := Aside0.mk ((by rw [hg]; exact (below_size (by repeat (first | (with_reducible first | exact HB.out | apply below_alloc | apply pw_below_drewN | apply below_drew1) | exact HB.out))) : w.heap.size ≤ gb434)); clear HB; have HB := n0_; have BK434 := n1_; have GW434 := n2_; have GE434 := n3_; clear n0_ n1_ n2_ n3_; clear hb hbox hg; obtain ⟨hcz4_0, hcz4_1, hcz4_2, hcz4_3, hcz4_4, hcz4_5, hcz4_6, hcz4_7, hfz4_0, hfz4_1, hfz4_2, hfz4_3, hfz4_4, hfz4_5, hfz4_6, hfz4_7⟩ := blk8_ BK434.out) | ((with_reducible refine gate_callee (f := 14) rfl ?_); refine goesL_ (some 4) rfl rfl Try.func14 (by kernel_rfl) rfl #[.agg #[.string a0_0, .int .i64 a0_1, .int .i64 a0_2, .int .i64 a0_3, .int .i64 a0_4, .int .i64 a0_5, .slice A0_6 l0_6.length c0_6, .slice A0_7 l0_7.length c0_7]] rfl (by (try simp only [List.map_toArray, List.map_cons, List.map_nil]); first | done | rfl | (simp only [List.length_drop, List.length_take]; rfl)) ?_; (with_reducible refine (entrepotref08_Check.calls k a0_0 a0_1 a0_2 a0_3 a0_4 a0_5 _ _ l0_6 _ _ l0_7 t435 _ ?side1 ?side2 ?side3 ?side4 A2.out).mono ?_); (case side1 => repeat (first | exact (Kd.C_below HR0_6.out HB.out) | (with_reducible refine Kd.C_alloc ?_ _) | (with_reducible refine Kd.C_drewN ?_ _) | (with_reducible refine Kd.C_drew ?_))); (case side2 => exact HC0_6.out); (case side3 => repeat (first | exact (Kd.C_below HR0_7.out HB.out) | (with_reducible refine Kd.C_alloc ?_ _) | (with_reducible refine Kd.C_drewN ?_ _) | (with_reducible refine Kd.C_drew ?_))); (case side4 => exact HC0_7.out); rintro e w5 ⟨v436, rfl, ho0, hb⟩; refine ⟨_, rfl, ?_⟩; have n0_ := Aside0.mk (Kd.R_lower ho0 (below_size (by repeat (first | (with_reducible first | exact HB.out | apply below_alloc | apply pw_below_drewN | apply below_drew1 | refine below_set ?_ GE434.out) | exact HB.out)))); have n1_ := Aside0.mk (blk_below (g := gb434) (o := .cells #[.string a0_0, .int .i64 a0_1, .int .i64 a0_2, .int .i64 a0_3, .int .i64 a0_4, .int .i64 a0_5, .slice A0_6 l0_6.length c0_6, .slice A0_7 l0_7.length c0_7] 36 (0, 0)) (by (with_reducible repeat (first | refine blk_drewN ?_ _ | refine blk_drew ?_ | refine blk_alloc ?_ _)); exact BK434.out) hb); have n2_ := Aside0.mk (below_step (by repeat (first | (with_reducible first | exact HB.out | apply below_alloc | apply pw_below_drewN | apply below_drew1 | refine below_set ?_ GE434.out) | exact HB.out)) hb); clear BK434; clear HB; have HO437 := n0_; have BK434 := n1_; have HB := n2_; clear n0_ n1_ n2_; (try clear hb); (try clear hb2); (try clear hk); (try clear hi); (try clear ho0); obtain ⟨Ao6, co6, eo6⟩ := Kd.R_slice HO437.out; subst eo6))
 go_ret
 exact ⟨by first | rfl | (simp [errW_none, errW_some] <;> rfl) | (simp [*, errW_none, errW_some] <;> rfl), by repeat (first | (with_reducible first | exact HB.out | apply below_alloc | apply pw_below_drewN | apply below_drew1 | refine below_set ?_ GE434.out) | exact HB.out)⟩

end Go.Proofs.Ytfnnngoandpgkaa.P
