/- Texts of this session in one: Lean functions for Go functions, and the proofs that the machine comes to their answers -/
import Derived.Test.YtdpfljkcnlamlaaDoorPx0
namespace Go.Proofs.YtdpfljkcnlamlaaDoor.P
open Go.RowKit Go.Proofs.YtdpfljkcnlamlaaDoorW.PrintWords Go.Proofs.YtdpfljkcnlamlaaDoorW.PrintLast Go.Proofs.YtdpfljkcnlamlaaDoorW.PrintMore
attribute [local go_sem] max2_int min2_int max_two min_two max_three min_three max_four min_four   -- for this text's walks alone
set_option linter.unusedVariables false
set_option linter.unusedSimpArgs false

/-! ### entrepotref05_holds: function 42 -/
def entrepotref05_holds.f (a0 : Int) (a1 : Int) (a2 : Int) (a3 : Int) (a4 : Int) : Option (Bool) := if a4 = 0 then (none) else (if a1 > (wrap64 (Int.tdiv (3000000000 : Int) a4)) then (some false) else (if a0 = 0 then (if a1 < (wrap64 (Int.tdiv (1000000000 : Int) a4)) then (some (decide ((wrap64 ((wrap64 ((wrap64 ((wrap64 (2 * a1)) - 1)) * a4)) * (wrap64 ((wrap64 ((wrap64 (2 * a1)) - 1)) * a4)))) ≤ (wrap64 (4 * a2))))) else (some false)) else (if a0 = 1 then (some (decide ((wrap64 ((wrap64 (a1 * a4)) * (wrap64 (a1 * a4)))) ≤ (wrap64 ((wrap64 (a3 * a3)) * a2))))) else (if a1 ≤ (wrap64 (Int.tdiv (300000000 : Int) a4)) then (some (decide ((wrap64 (a3 * (wrap64 ((wrap64 (a1 * a4)) * (wrap64 (a1 * a4)))))) < a2))) else (some false)))))
set_option maxHeartbeats 8000000 in
set_option maxRecDepth 100000 in
theorem entrepotref05_holds.calls (a0 : Int) (a1 : Int) (a2 : Int) (a3 : Int) (a4 : Int) (r : Bool) (w : World) (h : entrepotref05_holds.f a0 a1 a2 a3 a4 = some r) :
  Calls Tryd.prog 42 #[.int .i64 a0, .int .i64 a1, .int .i64 a2, .int .i64 a3, .int .i64 a4] w fun e w' => e = .returned (.bool r) ∧ Drawn0 w w' := by
 have H : (if a4 = 0 then (none) else (if a1 > (wrap64 (Int.tdiv (3000000000 : Int) a4)) then (some false) else (if a0 = 0 then (if a1 < (wrap64 (Int.tdiv (1000000000 : Int) a4)) then (some (decide ((wrap64 ((wrap64 ((wrap64 ((wrap64 (2 * a1)) - 1)) * a4)) * (wrap64 ((wrap64 ((wrap64 (2 * a1)) - 1)) * a4)))) ≤ (wrap64 (4 * a2))))) else (some false)) else (if a0 = 1 then (some (decide ((wrap64 ((wrap64 (a1 * a4)) * (wrap64 (a1 * a4)))) ≤ (wrap64 ((wrap64 (a3 * a3)) * a2))))) else (if a1 ≤ (wrap64 (Int.tdiv (300000000 : Int) a4)) then (some (decide ((wrap64 (a3 * (wrap64 ((wrap64 (a1 * a4)) * (wrap64 (a1 * a4)))))) < a2))) else (some false)))))) = some r := h
 clear h
 by_cases c6 : a4 = 0
 ·rw [if_pos c6] at H
  exact absurd H (by simp)
 ·rw [if_neg c6] at H
  have c6b0 : (a4 == 0) = false := beq_eq_false_iff_ne.mpr c6
  have c6b1 : (a4 != 0) = true := bne_iff_ne.mpr c6
  by_cases c7 : a1 > (wrap64 (Int.tdiv (3000000000 : Int) a4))
  ·rw [if_pos c7] at H
   have c7b0 : decide ((wrap64 (Int.tdiv (3000000000 : Int) a4)) < a1) = true := decide_eq_true c7
   clear c7
   obtain rfl := Option.some.inj H
   go_enter Tryd.func42, Tryd.ntmps42
   go_wp2
   go_ret
   exact ⟨by first | rfl | (simp; done) | (simp [*]; done), by repeat (first | exact Drawn0.refl _ | apply Drawn0.step)⟩
  ·rw [if_neg c7] at H
   have c7b0 : decide ((wrap64 (Int.tdiv (3000000000 : Int) a4)) < a1) = false := decide_eq_false c7
   clear c7
   by_cases c8 : a0 = 0
   ·rw [if_pos c8] at H
    have c8b0 : (a0 == 0) = true := beq_iff_eq.mpr c8
    have c8b1 : (a0 != 0) = false := bne_eq_false_iff_eq.mpr c8
    clear c8
    by_cases c9 : a1 < (wrap64 (Int.tdiv (1000000000 : Int) a4))
    ·rw [if_pos c9] at H
     have c9b0 : decide (a1 < (wrap64 (Int.tdiv (1000000000 : Int) a4))) = true := decide_eq_true c9
     clear c9
     obtain rfl := Option.some.inj H
     go_enter Tryd.func42, Tryd.ntmps42
     go_wp2
     go_ret
     exact ⟨by first | rfl | (simp; done) | (simp [*]; done), by repeat (first | exact Drawn0.refl _ | apply Drawn0.step)⟩
    ·rw [if_neg c9] at H
     have c9b0 : decide (a1 < (wrap64 (Int.tdiv (1000000000 : Int) a4))) = false := decide_eq_false c9
     clear c9
     obtain rfl := Option.some.inj H
     go_enter Tryd.func42, Tryd.ntmps42
     go_wp2
     go_ret
     exact ⟨by first | rfl | (simp; done) | (simp [*]; done), by repeat (first | exact Drawn0.refl _ | apply Drawn0.step)⟩
   ·rw [if_neg c8] at H
    have c8b0 : (a0 == 0) = false := beq_eq_false_iff_ne.mpr c8
    have c8b1 : (a0 != 0) = true := bne_iff_ne.mpr c8
    by_cases c10 : a0 = 1
    ·rw [if_pos c10] at H
     have c10b0 : (a0 == 1) = true := beq_iff_eq.mpr c10
     have c10b1 : (a0 != 1) = false := bne_eq_false_iff_eq.mpr c10
     clear c10
     obtain rfl := Option.some.inj H
     go_enter Tryd.func42, Tryd.ntmps42
     go_wp2
     go_ret
     exact ⟨by first | rfl | (simp; done) | (simp [*]; done), by repeat (first | exact Drawn0.refl _ | apply Drawn0.step)⟩
    ·rw [if_neg c10] at H
     have c10b0 : (a0 == 1) = false := beq_eq_false_iff_ne.mpr c10
     have c10b1 : (a0 != 1) = true := bne_iff_ne.mpr c10
     by_cases c11 : a1 ≤ (wrap64 (Int.tdiv (300000000 : Int) a4))
     ·rw [if_pos c11] at H
      have c11b0 : decide (a1 ≤ (wrap64 (Int.tdiv (300000000 : Int) a4))) = true := decide_eq_true c11
      clear c11
      obtain rfl := Option.some.inj H
      go_enter Tryd.func42, Tryd.ntmps42
      go_wp2
      go_ret
      exact ⟨by first | rfl | (simp; done) | (simp [*]; done), by repeat (first | exact Drawn0.refl _ | apply Drawn0.step)⟩
     ·rw [if_neg c11] at H
      have c11b0 : decide (a1 ≤ (wrap64 (Int.tdiv (300000000 : Int) a4))) = false := decide_eq_false c11
      clear c11
      obtain rfl := Option.some.inj H
      go_enter Tryd.func42, Tryd.ntmps42
      go_wp2
      go_ret
      exact ⟨by first | rfl | (simp; done) | (simp [*]; done), by repeat (first | exact Drawn0.refl _ | apply Drawn0.step)⟩

end Go.Proofs.YtdpfljkcnlamlaaDoor.P
namespace Go.Proofs.YtdpfljkcnlamlaaDoor.P
open Go.RowKit Go.Proofs.YtdpfljkcnlamlaaDoorW.PrintWords Go.Proofs.YtdpfljkcnlamlaaDoorW.PrintLast Go.Proofs.YtdpfljkcnlamlaaDoorW.PrintMore
attribute [local go_sem] max2_int min2_int max_two min_two max_three min_three max_four min_four   -- for this text's walks alone
set_option linter.unusedVariables false
set_option linter.unusedSimpArgs false

/-! ### entrepotref05_greatest: function 38 -/
def entrepotref05_greatest.l0 : Nat → Int → Int → Int → Int → Int → Int → Option (Int)
 | 0, _, _, _, _, _, _ => none
 | k + 1, x0, x1, x2, x3, x9, x10 => if x10 > 0 then ((entrepotref05_holds.f x0 (wrap64 (x9 + x10)) x1 x2 x3).bind fun t108 => (if t108 = true then (entrepotref05_greatest.l0 k x0 x1 x2 x3 (wrap64 (x9 + x10)) (wrap64 (Int.tdiv x10 2))) else (entrepotref05_greatest.l0 k x0 x1 x2 x3 x9 (wrap64 (Int.tdiv x10 2))))) else (some x9)
def entrepotref05_greatest.f (k : Nat) (a0 : Int) (a1 : Int) (a2 : Int) (a3 : Int) : Option (Int) := entrepotref05_greatest.l0 k a0 a1 a2 a3 0 2147483648
theorem entrepotref05_greatest.mono_l : ∀ k, (∀ y0 y1 y2 y3 y4 y5, LeO (entrepotref05_greatest.l0 k y0 y1 y2 y3 y4 y5) (entrepotref05_greatest.l0 (k + 1) y0 y1 y2 y3 y4 y5))
 | 0 => fun _ _ _ _ _ _ r h => by simp [entrepotref05_greatest.l0] at h
 | k + 1 => by
  have ih0 := entrepotref05_greatest.mono_l k
  ·intro y0 y1 y2 y3 y4 y5
   unfold entrepotref05_greatest.l0
   repeat' first
   | (with_reducible exact ih0 _ _ _ _ _ _)
   | (with_reducible exact LeO.refl _)
   | (with_reducible exact LeO.none _)
   | (with_reducible refine LeO.ite ?_ ?_)
   | (with_reducible refine LeO.bind ?_ (fun _ => ?_))
   | exact ih0 _ _ _ _ _ _
   | exact LeO.none _
   | refine LeO.ite ?_ ?_
   | refine LeO.bind ?_ (fun _ => ?_)
theorem entrepotref05_greatest.mono : ∀ a0 a1 a2 a3 k, LeO (entrepotref05_greatest.f k a0 a1 a2 a3) (entrepotref05_greatest.f (k + 1) a0 a1 a2 a3) := by
 intro a0 a1 a2 a3 k
 have ih0 := entrepotref05_greatest.mono_l k
 unfold entrepotref05_greatest.f
 repeat' first
   | (with_reducible exact ih0 _ _ _ _ _ _)
   | (with_reducible exact LeO.refl _)
   | (with_reducible exact LeO.none _)
   | (with_reducible refine LeO.ite ?_ ?_)
   | (with_reducible refine LeO.bind ?_ (fun _ => ?_))
   | exact ih0 _ _ _ _ _ _
   | exact LeO.none _
   | refine LeO.ite ?_ ?_
   | refine LeO.bind ?_ (fun _ => ?_)
set_option maxHeartbeats 8000000 in
set_option maxRecDepth 100000 in
theorem entrepotref05_greatest.calls (k : Nat) (a0 : Int) (a1 : Int) (a2 : Int) (a3 : Int) (r : Int) (w : World) (h : entrepotref05_greatest.f k a0 a1 a2 a3 = some r) :
  Calls Tryd.prog 38 #[.int .i64 a0, .int .i64 a1, .int .i64 a2, .int .i64 a3] w fun e w' => e = .returned (.int .i64 r) ∧ Drawn0 w w' := by
 have H : (entrepotref05_greatest.l0 k a0 a1 a2 a3 0 2147483648) = some r := h
 clear h
 have H' := Aside0.mk H
 clear H
 go_enter Tryd.func38, Tryd.ntmps38
 go_wp2
 go_loopg [9, 10] k (fun kq v9 v10 w' => ∃ (x9_1 : Int) (x10_1 : Int), v9 = .int .i64 x9_1 ∧ v10 = .int .i64 x10_1 ∧ Aside0 (entrepotref05_greatest.l0 kq a0 a1 a2 a3 x9_1 x10_1 = some r) ∧ Aside0 (kq ≤ k) ∧ Drawn0 w w')
 case atStart => exact ⟨(0), (2147483648), (by first | rfl | (simp; done) | (simp [*]; done)), (by first | rfl | (simp; done) | (simp [*]; done)), H', ⟨Nat.le_refl _⟩, by repeat (first | exact Drawn0.refl _ | apply Drawn0.step)⟩
 case round =>
  clear H'
  obtain ⟨x9_1, x10_1, rfl, rfl, HA, HK1, ⟨m1, rfl⟩⟩ := hrel
  cases gk with
  | zero => exact absurd HA.out (by simp [entrepotref05_greatest.l0])
  | succ k1 =>
   have H := HA.out
   clear HA
   simp only [entrepotref05_greatest.l0] at H
   by_cases c5 : x10_1 > 0
   ·rw [if_pos c5] at H
    have c5b0 : decide (0 < x10_1) = true := decide_eq_true c5
    clear c5
    replace H := Option.bind_eq_some_iff.mp H
    obtain ⟨t108, A60, H⟩ := H
    replace H : (if t108 = true then (entrepotref05_greatest.l0 k1 a0 a1 a2 a3 (wrap64 (x9_1 + x10_1)) (wrap64 (Int.tdiv x10_1 2))) else (entrepotref05_greatest.l0 k1 a0 a1 a2 a3 x9_1 (wrap64 (Int.tdiv x10_1 2)))) = some r := H
    have A6 := Aside0.mk A60
    clear A60
    by_cases c7 : t108 = true
    ·subst c7
     have H1 : (entrepotref05_greatest.l0 k1 a0 a1 a2 a3 (wrap64 (x9_1 + x10_1)) (wrap64 (Int.tdiv x10_1 2))) = some r := by rw [if_pos rfl] at H; exact H
     clear H
     have H := H1
     clear H1
     have H' := Aside0.mk H
     clear H
     go_wp2_with (first | ((with_reducible refine gate_callee (f := 42) rfl ?_); refine goesL_ (some 22) rfl rfl Tryd.func42 (by kernel_rfl) rfl #[.int .i64 a0, .int .i64 (wrap64 (x9_1 + x10_1)), .int .i64 a1, .int .i64 a2, .int .i64 a3] rfl (by (try simp only [List.map_toArray, List.map_cons, List.map_nil]); first | done | rfl | (simp only [List.length_drop, List.length_take]; rfl)) ?_; (with_reducible refine (entrepotref05_holds.calls a0 (wrap64 (x9_1 + x10_1)) a1 a2 a3 true _ A6.out).mono ?_); rintro e w' ⟨rfl, ⟨nd, rfl⟩⟩; refine ⟨_, rfl, ?_⟩))
     go_roundg k1
     case measure => have := HK1.out; omega
     case rel => exact ⟨(wrap64 (x9_1 + x10_1)), (wrap64 (Int.tdiv x10_1 2)), (by first | rfl | (simp; done) | (simp [*]; done)), (by first | rfl | (simp; done) | (simp [*]; done)), H', ⟨by have := HK1.out; omega⟩, by repeat (first | exact Drawn0.refl _ | apply Drawn0.step)⟩
    ·replace c7 := Bool.eq_false_iff.mpr c7
     subst c7
     have H1 : (entrepotref05_greatest.l0 k1 a0 a1 a2 a3 x9_1 (wrap64 (Int.tdiv x10_1 2))) = some r := by rw [if_neg (show ¬ (false = true) by decide)] at H; exact H
     clear H
     have H := H1
     clear H1
     have H' := Aside0.mk H
     clear H
     go_wp2_with (first | ((with_reducible refine gate_callee (f := 42) rfl ?_); refine goesL_ (some 22) rfl rfl Tryd.func42 (by kernel_rfl) rfl #[.int .i64 a0, .int .i64 (wrap64 (x9_1 + x10_1)), .int .i64 a1, .int .i64 a2, .int .i64 a3] rfl (by (try simp only [List.map_toArray, List.map_cons, List.map_nil]); first | done | rfl | (simp only [List.length_drop, List.length_take]; rfl)) ?_; (with_reducible refine (entrepotref05_holds.calls a0 (wrap64 (x9_1 + x10_1)) a1 a2 a3 false _ A6.out).mono ?_); rintro e w' ⟨rfl, ⟨nd, rfl⟩⟩; refine ⟨_, rfl, ?_⟩))
     go_roundg k1
     case measure => have := HK1.out; omega
     case rel => exact ⟨(x9_1), (wrap64 (Int.tdiv x10_1 2)), (by first | rfl | (simp; done) | (simp [*]; done)), (by first | rfl | (simp; done) | (simp [*]; done)), H', ⟨by have := HK1.out; omega⟩, by repeat (first | exact Drawn0.refl _ | apply Drawn0.step)⟩
   ·rw [if_neg c5] at H
    have c5b0 : decide (0 < x10_1) = false := decide_eq_false c5
    clear c5
    obtain rfl := Option.some.inj H
    go_wp2
    go_ret
    exact ⟨by first | rfl | (simp; done) | (simp [*]; done), by repeat (first | exact Drawn0.refl _ | apply Drawn0.step)⟩

end Go.Proofs.YtdpfljkcnlamlaaDoor.P
namespace Go.Proofs.YtdpfljkcnlamlaaDoor.P
open Go.RowKit Go.Proofs.YtdpfljkcnlamlaaDoorW.PrintWords Go.Proofs.YtdpfljkcnlamlaaDoorW.PrintLast Go.Proofs.YtdpfljkcnlamlaaDoorW.PrintMore
attribute [local go_sem] max2_int min2_int max_two min_two max_three min_three max_four min_four   -- for this text's walks alone
set_option linter.unusedVariables false
set_option linter.unusedSimpArgs false

/-! ### entrepotref05_Near: function 31 -/
def entrepotref05_Near.f (k : Nat) (a0 : Int) (a1 : Int) : Option (Int) := (entrepotref05_greatest.f k 0 a0 0 a1).bind fun t109 => (some t109)
theorem entrepotref05_Near.mono : ∀ a0 a1 k, LeO (entrepotref05_Near.f k a0 a1) (entrepotref05_Near.f (k + 1) a0 a1) := by
 intro a0 a1 k
 unfold entrepotref05_Near.f
 repeat' first
   | (with_reducible exact entrepotref05_greatest.mono _ _ _ _ _)
   | (with_reducible exact LeO.refl _)
   | (with_reducible exact LeO.none _)
   | (with_reducible refine LeO.ite ?_ ?_)
   | (with_reducible refine LeO.bind ?_ (fun _ => ?_))
   | exact entrepotref05_greatest.mono _ _ _ _ _
   | exact LeO.none _
   | refine LeO.ite ?_ ?_
   | refine LeO.bind ?_ (fun _ => ?_)
set_option maxHeartbeats 8000000 in
set_option maxRecDepth 100000 in
theorem entrepotref05_Near.calls (k : Nat) (a0 : Int) (a1 : Int) (r : Int) (w : World) (h : entrepotref05_Near.f k a0 a1 = some r) :
  Calls Tryd.prog 31 #[.int .i64 a0, .int .i64 a1] w fun e w' => e = .returned (.int .i64 r) ∧ Drawn0 w w' := by
 have H : ((entrepotref05_greatest.f k 0 a0 0 a1).bind fun t109 => (some t109)) = some r := h
 clear h
 replace H := Option.bind_eq_some_iff.mp H
 obtain ⟨t109, A30, H⟩ := H
 replace H : (some t109) = some r := H
 have A3 := Aside0.mk A30
 clear A30
 obtain rfl := Option.some.inj H
 go_enter Tryd.func31, Tryd.ntmps31
 go_wp2_with (first | ((with_reducible refine gate_callee (f := 38) rfl ?_); refine goesL_ (some 7) rfl rfl Tryd.func38 (by kernel_rfl) rfl #[.int .i64 0, .int .i64 a0, .int .i64 0, .int .i64 a1] rfl (by (try simp only [List.map_toArray, List.map_cons, List.map_nil]); first | done | rfl | (simp only [List.length_drop, List.length_take]; rfl)) ?_; (with_reducible refine (entrepotref05_greatest.calls k 0 a0 0 a1 t109 _ A3.out).mono ?_); rintro e w' ⟨rfl, ⟨nd, rfl⟩⟩; refine ⟨_, rfl, ?_⟩))
 go_ret
 exact ⟨by first | rfl | (simp; done) | (simp [*]; done), by repeat (first | exact Drawn0.refl _ | apply Drawn0.step)⟩

end Go.Proofs.YtdpfljkcnlamlaaDoor.P
namespace Go.Proofs.YtdpfljkcnlamlaaDoor.P
open Go.RowKit Go.Proofs.YtdpfljkcnlamlaaDoorW.PrintWords Go.Proofs.YtdpfljkcnlamlaaDoorW.PrintLast Go.Proofs.YtdpfljkcnlamlaaDoorW.PrintMore
attribute [local go_sem] max2_int min2_int max_two min_two max_three min_three max_four min_four   -- for this text's walks alone
set_option linter.unusedVariables false
set_option linter.unusedSimpArgs false

/-! ### entrepotref05_Down: function 34 -/
def entrepotref05_Down.f (k : Nat) (a0 : Int) (a1 : Int) (a2 : Int) : Option (Int) := (entrepotref05_greatest.f k 1 a0 a1 a2).bind fun t111 => (some t111)
theorem entrepotref05_Down.mono : ∀ a0 a1 a2 k, LeO (entrepotref05_Down.f k a0 a1 a2) (entrepotref05_Down.f (k + 1) a0 a1 a2) := by
 intro a0 a1 a2 k
 unfold entrepotref05_Down.f
 repeat' first
   | (with_reducible exact entrepotref05_greatest.mono _ _ _ _ _)
   | (with_reducible exact LeO.refl _)
   | (with_reducible exact LeO.none _)
   | (with_reducible refine LeO.ite ?_ ?_)
   | (with_reducible refine LeO.bind ?_ (fun _ => ?_))
   | exact entrepotref05_greatest.mono _ _ _ _ _
   | exact LeO.none _
   | refine LeO.ite ?_ ?_
   | refine LeO.bind ?_ (fun _ => ?_)
set_option maxHeartbeats 8000000 in
set_option maxRecDepth 100000 in
theorem entrepotref05_Down.calls (k : Nat) (a0 : Int) (a1 : Int) (a2 : Int) (r : Int) (w : World) (h : entrepotref05_Down.f k a0 a1 a2 = some r) :
  Calls Tryd.prog 34 #[.int .i64 a0, .int .i64 a1, .int .i64 a2] w fun e w' => e = .returned (.int .i64 r) ∧ Drawn0 w w' := by
 have H : ((entrepotref05_greatest.f k 1 a0 a1 a2).bind fun t111 => (some t111)) = some r := h
 clear h
 replace H := Option.bind_eq_some_iff.mp H
 obtain ⟨t111, A40, H⟩ := H
 replace H : (some t111) = some r := H
 have A4 := Aside0.mk A40
 clear A40
 obtain rfl := Option.some.inj H
 go_enter Tryd.func34, Tryd.ntmps34
 go_wp2_with (first | ((with_reducible refine gate_callee (f := 38) rfl ?_); refine goesL_ (some 10) rfl rfl Tryd.func38 (by kernel_rfl) rfl #[.int .i64 1, .int .i64 a0, .int .i64 a1, .int .i64 a2] rfl (by (try simp only [List.map_toArray, List.map_cons, List.map_nil]); first | done | rfl | (simp only [List.length_drop, List.length_take]; rfl)) ?_; (with_reducible refine (entrepotref05_greatest.calls k 1 a0 a1 a2 t111 _ A4.out).mono ?_); rintro e w' ⟨rfl, ⟨nd, rfl⟩⟩; refine ⟨_, rfl, ?_⟩))
 go_ret
 exact ⟨by first | rfl | (simp; done) | (simp [*]; done), by repeat (first | exact Drawn0.refl _ | apply Drawn0.step)⟩

end Go.Proofs.YtdpfljkcnlamlaaDoor.P
namespace Go.Proofs.YtdpfljkcnlamlaaDoor.P
open Go.RowKit Go.Proofs.YtdpfljkcnlamlaaDoorW.PrintWords Go.Proofs.YtdpfljkcnlamlaaDoorW.PrintLast Go.Proofs.YtdpfljkcnlamlaaDoorW.PrintMore
attribute [local go_sem] max2_int min2_int max_two min_two max_three min_three max_four min_four   -- for this text's walks alone
set_option linter.unusedVariables false
set_option linter.unusedSimpArgs false

/-! ### entrepotref05_Ceil: function 32 -/
def entrepotref05_Ceil.f (k : Nat) (a0 : Int) (a1 : Int) (a2 : Int) : Option (Int) := if a0 = 0 then (some 0) else ((entrepotref05_greatest.f k 2 a0 a1 a2).bind fun t110 => (some (wrap64 (t110 + 1))))
theorem entrepotref05_Ceil.mono : ∀ a0 a1 a2 k, LeO (entrepotref05_Ceil.f k a0 a1 a2) (entrepotref05_Ceil.f (k + 1) a0 a1 a2) := by
 intro a0 a1 a2 k
 unfold entrepotref05_Ceil.f
 repeat' first
   | (with_reducible exact entrepotref05_greatest.mono _ _ _ _ _)
   | (with_reducible exact LeO.refl _)
   | (with_reducible exact LeO.none _)
   | (with_reducible refine LeO.ite ?_ ?_)
   | (with_reducible refine LeO.bind ?_ (fun _ => ?_))
   | exact entrepotref05_greatest.mono _ _ _ _ _
   | exact LeO.none _
   | refine LeO.ite ?_ ?_
   | refine LeO.bind ?_ (fun _ => ?_)
set_option maxHeartbeats 8000000 in
set_option maxRecDepth 100000 in
theorem entrepotref05_Ceil.calls (k : Nat) (a0 : Int) (a1 : Int) (a2 : Int) (r : Int) (w : World) (h : entrepotref05_Ceil.f k a0 a1 a2 = some r) :
  Calls Tryd.prog 32 #[.int .i64 a0, .int .i64 a1, .int .i64 a2] w fun e w' => e = .returned (.int .i64 r) ∧ Drawn0 w w' := by
 have H : (if a0 = 0 then (some 0) else ((entrepotref05_greatest.f k 2 a0 a1 a2).bind fun t110 => (some (wrap64 (t110 + 1))))) = some r := h
 clear h
 by_cases c4 : a0 = 0
 ·rw [if_pos c4] at H
  have c4b0 : (a0 == 0) = true := beq_iff_eq.mpr c4
  have c4b1 : (a0 != 0) = false := bne_eq_false_iff_eq.mpr c4
  clear c4
  obtain rfl := Option.some.inj H
  go_enter Tryd.func32, Tryd.ntmps32
  go_wp2
  go_ret
  exact ⟨by first | rfl | (simp; done) | (simp [*]; done), by repeat (first | exact Drawn0.refl _ | apply Drawn0.step)⟩
 ·rw [if_neg c4] at H
  have c4b0 : (a0 == 0) = false := beq_eq_false_iff_ne.mpr c4
  have c4b1 : (a0 != 0) = true := bne_iff_ne.mpr c4
  replace H := Option.bind_eq_some_iff.mp H
  obtain ⟨t110, A50, H⟩ := H
  replace H : (some (wrap64 (t110 + 1))) = some r := H
  have A5 := Aside0.mk A50
  clear A50
  obtain rfl := Option.some.inj H
  go_enter Tryd.func32, Tryd.ntmps32
  go_wp2_with (first | ((with_reducible refine gate_callee (f := 38) rfl ?_); refine goesL_ (some 12) rfl rfl Tryd.func38 (by kernel_rfl) rfl #[.int .i64 2, .int .i64 a0, .int .i64 a1, .int .i64 a2] rfl (by (try simp only [List.map_toArray, List.map_cons, List.map_nil]); first | done | rfl | (simp only [List.length_drop, List.length_take]; rfl)) ?_; (with_reducible refine (entrepotref05_greatest.calls k 2 a0 a1 a2 t110 _ A5.out).mono ?_); rintro e w' ⟨rfl, ⟨nd, rfl⟩⟩; refine ⟨_, rfl, ?_⟩))
  go_ret
  exact ⟨by first | rfl | (simp; done) | (simp [*]; done), by repeat (first | exact Drawn0.refl _ | apply Drawn0.step)⟩

end Go.Proofs.YtdpfljkcnlamlaaDoor.P
namespace Go.Proofs.YtdpfljkcnlamlaaDoor.P
open Go.RowKit Go.Proofs.YtdpfljkcnlamlaaDoorW.PrintWords Go.Proofs.YtdpfljkcnlamlaaDoorW.PrintLast Go.Proofs.YtdpfljkcnlamlaaDoorW.PrintMore
attribute [local go_sem] max2_int min2_int max_two min_two max_three min_three max_four min_four   -- for this text's walks alone
set_option linter.unusedVariables false
set_option linter.unusedSimpArgs false

/-! ### entrepotref06_far: function 30 -/
def entrepotref06_far.f (a0 : Int) : Option (Bool) := if a0 < (-200000000) then (some true) else (some (decide (a0 > 200000000)))
set_option maxHeartbeats 8000000 in
set_option maxRecDepth 100000 in
theorem entrepotref06_far.calls (a0 : Int) (r : Bool) (w : World) (h : entrepotref06_far.f a0 = some r) :
  Calls Tryd.prog 30 #[.int .i64 a0] w fun e w' => e = .returned (.bool r) ∧ Drawn0 w w' := by
 have H : (if a0 < (-200000000) then (some true) else (some (decide (a0 > 200000000)))) = some r := h
 clear h
 by_cases c2 : a0 < (-200000000)
 ·rw [if_pos c2] at H
  have c2b0 : decide (a0 < (-200000000)) = true := decide_eq_true c2
  clear c2
  obtain rfl := Option.some.inj H
  go_enter Tryd.func30, Tryd.ntmps30
  go_wp2
  go_ret
  exact ⟨by first | rfl | (simp; done) | (simp [*]; done), by repeat (first | exact Drawn0.refl _ | apply Drawn0.step)⟩
 ·rw [if_neg c2] at H
  have c2b0 : decide (a0 < (-200000000)) = false := decide_eq_false c2
  clear c2
  obtain rfl := Option.some.inj H
  go_enter Tryd.func30, Tryd.ntmps30
  go_wp2
  go_ret
  exact ⟨by first | rfl | (simp; done) | (simp [*]; done), by repeat (first | exact Drawn0.refl _ | apply Drawn0.step)⟩

end Go.Proofs.YtdpfljkcnlamlaaDoor.P
namespace Go.Proofs.YtdpfljkcnlamlaaDoor.P
open Go.RowKit Go.Proofs.YtdpfljkcnlamlaaDoorW.PrintWords Go.Proofs.YtdpfljkcnlamlaaDoorW.PrintLast Go.Proofs.YtdpfljkcnlamlaaDoorW.PrintMore
attribute [local go_sem] max2_int min2_int max_two min_two max_three min_three max_four min_four   -- for this text's walks alone
set_option linter.unusedVariables false
set_option linter.unusedSimpArgs false

/-! ### entrepotref06_nearest: function 33 -/
def entrepotref06_nearest.f (a0 : Int) (a1 : Int) : Option (Int) := if (wrap64 (2 * a1)) = 0 then (none) else (some (wrap64 (Int.tdiv (wrap64 ((wrap64 (2 * a0)) + a1)) (wrap64 (2 * a1)))))
set_option maxHeartbeats 8000000 in
set_option maxRecDepth 100000 in
theorem entrepotref06_nearest.calls (a0 : Int) (a1 : Int) (r : Int) (w : World) (h : entrepotref06_nearest.f a0 a1 = some r) :
  Calls Tryd.prog 33 #[.int .i64 a0, .int .i64 a1] w fun e w' => e = .returned (.int .i64 r) ∧ Drawn0 w w' := by
 have H : (if (wrap64 (2 * a1)) = 0 then (none) else (some (wrap64 (Int.tdiv (wrap64 ((wrap64 (2 * a0)) + a1)) (wrap64 (2 * a1)))))) = some r := h
 clear h
 by_cases c3 : (wrap64 (2 * a1)) = 0
 ·rw [if_pos c3] at H
  exact absurd H (by simp)
 ·rw [if_neg c3] at H
  have c3b0 : ((wrap64 (2 * a1)) == 0) = false := beq_eq_false_iff_ne.mpr c3
  have c3b1 : ((wrap64 (2 * a1)) != 0) = true := bne_iff_ne.mpr c3
  obtain rfl := Option.some.inj H
  go_enter Tryd.func33, Tryd.ntmps33
  go_wp2
  go_ret
  exact ⟨by first | rfl | (simp; done) | (simp [*]; done), by repeat (first | exact Drawn0.refl _ | apply Drawn0.step)⟩

end Go.Proofs.YtdpfljkcnlamlaaDoor.P
namespace Go.Proofs.YtdpfljkcnlamlaaDoor.P
open Go.RowKit Go.Proofs.YtdpfljkcnlamlaaDoorW.PrintWords Go.Proofs.YtdpfljkcnlamlaaDoorW.PrintLast Go.Proofs.YtdpfljkcnlamlaaDoorW.PrintMore
attribute [local go_sem] max2_int min2_int max_two min_two max_three min_three max_four min_four   -- for this text's walks alone
set_option linter.unusedVariables false
set_option linter.unusedSimpArgs false

/-! ### entrepotref06_Dist: function 10 -/
mutual
def entrepotref06_Dist.j0 : Nat → Int → Int → Int → Int → Bool → Option (Int × Int)
 | 0, _, _, _, _, _ => none
 | k + 1, x0, x1, x2, x3, x28 => if x28 = true then (some (0, 1)) else ((entrepotref06_far.f x2).bind fun t112 => (if t112 = true then (entrepotref06_Dist.j1 k x0 x1 x2 x3 true) else ((entrepotref06_far.f x3).bind fun t113 => (entrepotref06_Dist.j1 k x0 x1 x2 x3 t113))))
def entrepotref06_Dist.j1 : Nat → Int → Int → Int → Int → Bool → Option (Int × Int)
 | 0, _, _, _, _, _ => none
 | k + 1, x0, x1, x2, x3, x34 => if x34 = true then (some (0, 2)) else (entrepotref06_Dist.l0 k x0 x1 (mx x2 (wrap64 (-x2))) (mx x3 (wrap64 (-x3))) (wrap64 ((wrap64 ((mx x2 (wrap64 (-x2))) * (mx x2 (wrap64 (-x2))))) + (wrap64 ((mx x3 (wrap64 (-x3))) * (mx x3 (wrap64 (-x3))))))) 1 0)
def entrepotref06_Dist.l0 : Nat → Int → Int → Int → Int → Int → Int → Int → Option (Int × Int)
 | 0, _, _, _, _, _, _, _ => none
 | k + 1, x0, x1, x10, x11, x12, x13, x14 => if x14 < x1 then (entrepotref06_Dist.l0 k x0 x1 x10 x11 x12 (wrap64 (10 * x13)) (wrap64 (x14 + 1))) else (if x0 = 1 then ((entrepotref05_Near.f k x12 x13).bind fun t114 => (some (t114, 0))) else (if x0 = 2 then ((entrepotref05_Ceil.f k x12 1 x13).bind fun t115 => (some (t115, 0))) else (if x0 = 3 then ((entrepotref06_nearest.f (wrap64 (x10 + x11)) x13).bind fun t116 => (some (t116, 0))) else (if x0 = 4 then ((entrepotref06_nearest.f x10 x13).bind fun t117 => ((entrepotref06_nearest.f x11 x13).bind fun t118 => (some (mx t117 t118, 0)))) else (if x0 = 5 then ((entrepotref05_Ceil.f k x12 10 x13).bind fun t119 => (some (t119, 0))) else ((entrepotref05_Down.f k x12 10 x13).bind fun t120 => (some (t120, 0))))))))
end
def entrepotref06_Dist.f (k : Nat) (a0 : Int) (a1 : Int) (a2 : Int) (a3 : Int) : Option (Int × Int) := if a0 < 1 then (entrepotref06_Dist.j0 k a0 a1 a2 a3 true) else (if a0 > 6 then (entrepotref06_Dist.j0 k a0 a1 a2 a3 true) else (if a1 < 0 then (entrepotref06_Dist.j0 k a0 a1 a2 a3 true) else (entrepotref06_Dist.j0 k a0 a1 a2 a3 (decide (a1 > 6)))))
theorem entrepotref06_Dist.mono_l : ∀ k, (∀ y0 y1 y2 y3 y4, LeO (entrepotref06_Dist.j0 k y0 y1 y2 y3 y4) (entrepotref06_Dist.j0 (k + 1) y0 y1 y2 y3 y4)) ∧ (∀ y0 y1 y2 y3 y4, LeO (entrepotref06_Dist.j1 k y0 y1 y2 y3 y4) (entrepotref06_Dist.j1 (k + 1) y0 y1 y2 y3 y4)) ∧ (∀ y0 y1 y2 y3 y4 y5 y6, LeO (entrepotref06_Dist.l0 k y0 y1 y2 y3 y4 y5 y6) (entrepotref06_Dist.l0 (k + 1) y0 y1 y2 y3 y4 y5 y6))
 | 0 => ⟨fun _ _ _ _ _ r h => by simp [entrepotref06_Dist.j0] at h, fun _ _ _ _ _ r h => by simp [entrepotref06_Dist.j1] at h, fun _ _ _ _ _ _ _ r h => by simp [entrepotref06_Dist.l0] at h⟩
 | k + 1 => by
  obtain ⟨ih0, ih1, ih2⟩ := entrepotref06_Dist.mono_l k
  refine ⟨?_, ?_, ?_⟩ <;> intros
  all_goals first | unfold entrepotref06_Dist.j0 | unfold entrepotref06_Dist.j1 | unfold entrepotref06_Dist.l0
  all_goals repeat' first
  | (with_reducible exact ih0 _ _ _ _ _)
  | (with_reducible exact ih1 _ _ _ _ _)
  | (with_reducible exact ih2 _ _ _ _ _ _ _)
  | (with_reducible exact entrepotref05_Ceil.mono _ _ _ _)
  | (with_reducible exact entrepotref05_Down.mono _ _ _ _)
  | (with_reducible exact entrepotref05_Near.mono _ _ _)
  | (with_reducible exact LeO.refl _)
  | (with_reducible exact LeO.none _)
  | (with_reducible refine LeO.ite ?_ ?_)
  | (with_reducible refine LeO.bind ?_ (fun _ => ?_))
  | exact ih0 _ _ _ _ _
  | exact ih1 _ _ _ _ _
  | exact ih2 _ _ _ _ _ _ _
  | exact entrepotref05_Ceil.mono _ _ _ _
  | exact entrepotref05_Down.mono _ _ _ _
  | exact entrepotref05_Near.mono _ _ _
  | exact LeO.none _
  | refine LeO.ite ?_ ?_
  | refine LeO.bind ?_ (fun _ => ?_)
theorem entrepotref06_Dist.mono : ∀ a0 a1 a2 a3 k, LeO (entrepotref06_Dist.f k a0 a1 a2 a3) (entrepotref06_Dist.f (k + 1) a0 a1 a2 a3) := by
 intro a0 a1 a2 a3 k
 obtain ⟨ih0, ih1, ih2⟩ := entrepotref06_Dist.mono_l k
 unfold entrepotref06_Dist.f
 repeat' first
   | (with_reducible exact ih0 _ _ _ _ _)
   | (with_reducible exact ih1 _ _ _ _ _)
   | (with_reducible exact ih2 _ _ _ _ _ _ _)
   | (with_reducible exact entrepotref05_Ceil.mono _ _ _ _)
   | (with_reducible exact entrepotref05_Down.mono _ _ _ _)
   | (with_reducible exact entrepotref05_Near.mono _ _ _)
   | (with_reducible exact LeO.refl _)
   | (with_reducible exact LeO.none _)
   | (with_reducible refine LeO.ite ?_ ?_)
   | (with_reducible refine LeO.bind ?_ (fun _ => ?_))
   | exact ih0 _ _ _ _ _
   | exact ih1 _ _ _ _ _
   | exact ih2 _ _ _ _ _ _ _
   | exact entrepotref05_Ceil.mono _ _ _ _
   | exact entrepotref05_Down.mono _ _ _ _
   | exact entrepotref05_Near.mono _ _ _
   | exact LeO.none _
   | refine LeO.ite ?_ ?_
   | refine LeO.bind ?_ (fun _ => ?_)
set_option maxHeartbeats 8000000 in
set_option maxRecDepth 100000 in
theorem entrepotref06_Dist.calls (k : Nat) (a0 : Int) (a1 : Int) (a2 : Int) (a3 : Int) (r1 : Int) (r2 : Int) (w : World) (h : entrepotref06_Dist.f k a0 a1 a2 a3 = some (r1, r2)) :
  Calls Tryd.prog 10 #[.int .i64 a0, .int .i64 a1, .int .i64 a2, .int .i64 a3] w fun e w' => e = .returned (.tuple #[.int .i64 r1, .int .i64 r2]) ∧ Below w.heap.size w w' := by
 have HB := Aside0.mk (Below.refl w.heap.size w)
 have H : (if a0 < 1 then (entrepotref06_Dist.j0 k a0 a1 a2 a3 true) else (if a0 > 6 then (entrepotref06_Dist.j0 k a0 a1 a2 a3 true) else (if a1 < 0 then (entrepotref06_Dist.j0 k a0 a1 a2 a3 true) else (entrepotref06_Dist.j0 k a0 a1 a2 a3 (decide (a1 > 6)))))) = some (r1, r2) := h
 clear h
 have HC5 := Aside0.mk H
 clear H
 go_enter Tryd.func10, Tryd.ntmps10
 go_upto_region 1 with (fail)
 go_cut [28] (fun v28 wc => ∃ (kq : Nat) (x28_4 : Bool), v28 = .bool x28_4 ∧ Aside0 (entrepotref06_Dist.j0 kq a0 a1 a2 a3 x28_4 = some (r1, r2)) ∧ Aside0 (kq ≤ k) ∧ Aside0 (Below w.heap.size w wc))
 case first =>
  have H := HC5.out
  clear HC5
  by_cases c6 : a0 < 1
  ·rw [if_pos c6] at H
   have c6b0 : decide (a0 < 1) = true := decide_eq_true c6
   clear c6
   (first | rw [c6b0] | (simp only [i64_w, i32_w]; rw [c6b0]) | skip)
   have H' := Aside0.mk H
   clear H
   go_wp2
   go_meet
   case rel => exact ⟨_, (true), (by first | rfl | (simp; done) | (simp [*]; done)), H', ⟨by first | omega | exact Nat.le_refl _⟩, ⟨by repeat (first | (with_reducible first | exact HB.out | apply below_alloc | apply pw_below_drewN | apply below_drew1) | exact HB.out)⟩⟩
  ·rw [if_neg c6] at H
   have c6b0 : decide (a0 < 1) = false := decide_eq_false c6
   clear c6
   (first | rw [c6b0] | (simp only [i64_w, i32_w]; rw [c6b0]) | skip)
   by_cases c7 : a0 > 6
   ·rw [if_pos c7] at H
    have c7b0 : decide (6 < a0) = true := decide_eq_true c7
    clear c7
    have H' := Aside0.mk H
    clear H
    go_wp2
    go_meet
    case rel => exact ⟨_, (true), (by first | rfl | (simp; done) | (simp [*]; done)), H', ⟨by first | omega | exact Nat.le_refl _⟩, ⟨by repeat (first | (with_reducible first | exact HB.out | apply below_alloc | apply pw_below_drewN | apply below_drew1) | exact HB.out)⟩⟩
   ·rw [if_neg c7] at H
    have c7b0 : decide (6 < a0) = false := decide_eq_false c7
    clear c7
    by_cases c8 : a1 < 0
    ·rw [if_pos c8] at H
     have c8b0 : decide (a1 < 0) = true := decide_eq_true c8
     clear c8
     have H' := Aside0.mk H
     clear H
     go_wp2
     go_meet
     case rel => exact ⟨_, (true), (by first | rfl | (simp; done) | (simp [*]; done)), H', ⟨by first | omega | exact Nat.le_refl _⟩, ⟨by repeat (first | (with_reducible first | exact HB.out | apply below_alloc | apply pw_below_drewN | apply below_drew1) | exact HB.out)⟩⟩
    ·rw [if_neg c8] at H
     have c8b0 : decide (a1 < 0) = false := decide_eq_false c8
     clear c8
     have H' := Aside0.mk H
     clear H
     go_wp2
     go_meet
     case rel => exact ⟨_, (decide (a1 > 6)), (by first | rfl | (simp; done) | (simp [*]; done)), H', ⟨by first | omega | exact Nat.le_refl _⟩, ⟨by repeat (first | (with_reducible first | exact HB.out | apply below_alloc | apply pw_below_drewN | apply below_drew1) | exact HB.out)⟩⟩
 case rest =>
  clear HC5
  obtain ⟨kq, x28_4, rfl, HA, HJ4, HB⟩ := hcut
  cases kq with
  | zero => exact absurd HA.out (by simp [entrepotref06_Dist.j0])
  | succ kj4 =>
   have H := HA.out
   clear HA
   simp only [entrepotref06_Dist.j0] at H
   by_cases c9 : x28_4 = true
   ·subst c9
    have H1 : (some (0, 1)) = some (r1, r2) := by rw [if_pos rfl] at H; exact H
    clear H
    have H := H1
    clear H1
    simp only [Option.some.injEq, Prod.mk.injEq] at H
    obtain ⟨rfl, rfl⟩ := H
    go_wp2
    go_ret2
    exact ⟨by first | rfl | (simp [errW_none, errW_some] <;> rfl) | (simp [*, errW_none, errW_some] <;> rfl), by repeat (first | (with_reducible first | exact HB.out | apply below_alloc | apply pw_below_drewN | apply below_drew1) | exact HB.out)⟩
   ·replace c9 := Bool.eq_false_iff.mpr c9
    subst c9
    have H1 : ((entrepotref06_far.f a2).bind fun t112 => (if t112 = true then (entrepotref06_Dist.j1 kj4 a0 a1 a2 a3 true) else ((entrepotref06_far.f a3).bind fun t113 => (entrepotref06_Dist.j1 kj4 a0 a1 a2 a3 t113)))) = some (r1, r2) := by rw [if_neg (show ¬ (false = true) by decide)] at H; exact H
    clear H
    have H := H1
    clear H1
    have HC10 := Aside0.mk H
    clear H
    go_upto_region 3 with (fail)
    go_cut [34] (fun v34 wc => ∃ (kq : Nat) (x34_9 : Bool), v34 = .bool x34_9 ∧ Aside0 (entrepotref06_Dist.j1 kq a0 a1 a2 a3 x34_9 = some (r1, r2)) ∧ Aside0 (kq ≤ kj4) ∧ Aside0 (Below w.heap.size w wc))
    case first =>
     have H := HC10.out
     clear HC10
     replace H := Option.bind_eq_some_iff.mp H
     obtain ⟨t112, A110, H⟩ := H
     replace H : (if t112 = true then (entrepotref06_Dist.j1 kj4 a0 a1 a2 a3 true) else ((entrepotref06_far.f a3).bind fun t113 => (entrepotref06_Dist.j1 kj4 a0 a1 a2 a3 t113))) = some (r1, r2) := H
     have A11 := Aside0.mk A110
     clear A110
     by_cases c12 : t112 = true
     ·subst c12
      have H1 : (entrepotref06_Dist.j1 kj4 a0 a1 a2 a3 true) = some (r1, r2) := by rw [if_pos rfl] at H; exact H
      clear H
      have H := H1
      clear H1
      have H' := Aside0.mk H
      clear H
      go_wp2_with (first | ((with_reducible refine gate_callee (f := 30) rfl ?_); refine goesL_ (some 30) rfl rfl Tryd.func30 (by kernel_rfl) rfl #[.int .i64 a2] rfl (by (try simp only [List.map_toArray, List.map_cons, List.map_nil]); first | done | rfl | (simp only [List.length_drop, List.length_take]; rfl)) ?_; (with_reducible refine (entrepotref06_far.calls a2 true _ A11.out).mono ?_); rintro e w' ⟨rfl, ⟨nd, rfl⟩⟩; refine ⟨_, rfl, ?_⟩))
      go_meet
      case rel => exact ⟨_, (true), (by first | rfl | (simp; done) | (simp [*]; done)), H', ⟨by have := HJ4.out; first | omega | exact Nat.le_refl _⟩, ⟨by repeat (first | (with_reducible first | exact HB.out | apply below_alloc | apply pw_below_drewN | apply below_drew1) | exact HB.out)⟩⟩
     ·replace c12 := Bool.eq_false_iff.mpr c12
      subst c12
      have H1 : ((entrepotref06_far.f a3).bind fun t113 => (entrepotref06_Dist.j1 kj4 a0 a1 a2 a3 t113)) = some (r1, r2) := by rw [if_neg (show ¬ (false = true) by decide)] at H; exact H
      clear H
      have H := H1
      clear H1
      replace H := Option.bind_eq_some_iff.mp H
      obtain ⟨t113, A130, H⟩ := H
      replace H : (entrepotref06_Dist.j1 kj4 a0 a1 a2 a3 t113) = some (r1, r2) := H
      have A13 := Aside0.mk A130
      clear A130
      have H' := Aside0.mk H
      clear H
      go_wp2_with (first | ((with_reducible refine gate_callee (f := 30) rfl ?_); refine goesL_ (some 30) rfl rfl Tryd.func30 (by kernel_rfl) rfl #[.int .i64 a2] rfl (by (try simp only [List.map_toArray, List.map_cons, List.map_nil]); first | done | rfl | (simp only [List.length_drop, List.length_take]; rfl)) ?_; (with_reducible refine (entrepotref06_far.calls a2 false _ A11.out).mono ?_); rintro e w' ⟨rfl, ⟨nd, rfl⟩⟩; refine ⟨_, rfl, ?_⟩) | (go_at_call 30; (with_reducible refine (entrepotref06_far.calls a3 t113 _ A13.out).mono ?_); rintro e w' ⟨rfl, ⟨nd, rfl⟩⟩))
      go_meet
      case rel => exact ⟨_, (t113), (by first | rfl | (simp; done) | (simp [*]; done)), H', ⟨by have := HJ4.out; first | omega | exact Nat.le_refl _⟩, ⟨by repeat (first | (with_reducible first | exact HB.out | apply below_alloc | apply pw_below_drewN | apply below_drew1) | exact HB.out)⟩⟩
    case rest =>
     clear HC10
     (try clear c9)
     obtain ⟨kq, x34_9, rfl, HA, HJ9, HB⟩ := hcut
     cases kq with
     | zero => exact absurd HA.out (by simp [entrepotref06_Dist.j1])
     | succ kj9 =>
      have H := HA.out
      clear HA
      simp only [entrepotref06_Dist.j1] at H
      by_cases c14 : x34_9 = true
      ·subst c14
       have H1 : (some (0, 2)) = some (r1, r2) := by rw [if_pos rfl] at H; exact H
       clear H
       have H := H1
       clear H1
       simp only [Option.some.injEq, Prod.mk.injEq] at H
       obtain ⟨rfl, rfl⟩ := H
       go_wp2
       go_ret2
       exact ⟨by first | rfl | (simp [errW_none, errW_some] <;> rfl) | (simp [*, errW_none, errW_some] <;> rfl), by repeat (first | (with_reducible first | exact HB.out | apply below_alloc | apply pw_below_drewN | apply below_drew1) | exact HB.out)⟩
      ·replace c14 := Bool.eq_false_iff.mpr c14
       subst c14
       have H1 : (entrepotref06_Dist.l0 kj9 a0 a1 (mx a2 (wrap64 (-a2))) (mx a3 (wrap64 (-a3))) (wrap64 ((wrap64 ((mx a2 (wrap64 (-a2))) * (mx a2 (wrap64 (-a2))))) + (wrap64 ((mx a3 (wrap64 (-a3))) * (mx a3 (wrap64 (-a3))))))) 1 0) = some (r1, r2) := by rw [if_neg (show ¬ (false = true) by decide)] at H; exact H
       clear H
       have H := H1
       clear H1
       obtain ⟨ji15, hji15⟩ : ∃ j_ : Int, (mx a2 (wrap64 (-a2))) = j_ := ⟨_, rfl⟩
       replace H : (entrepotref06_Dist.l0 kj9 a0 a1 ji15 (mx a3 (wrap64 (-a3))) (wrap64 ((wrap64 ((ji15) * (ji15))) + (wrap64 ((mx a3 (wrap64 (-a3))) * (mx a3 (wrap64 (-a3))))))) 1 0) = some (r1, r2) := by first | (rw [hji15] at H; exact H) | (simp only [hji15] at H ⊢; exact H)
       have hji15_ : (if a2 < (wrap64 (-a2)) then (wrap64 (-a2)) else a2) = ji15 := hji15
       obtain ⟨ji16, hji16⟩ : ∃ j_ : Int, (mx a3 (wrap64 (-a3))) = j_ := ⟨_, rfl⟩
       replace H : (entrepotref06_Dist.l0 kj9 a0 a1 ji15 ji16 (wrap64 ((wrap64 ((ji15) * (ji15))) + (wrap64 ((ji16) * (ji16))))) 1 0) = some (r1, r2) := by first | (rw [hji16] at H; exact H) | (simp only [hji16] at H ⊢; exact H)
       have hji16_ : (if a3 < (wrap64 (-a3)) then (wrap64 (-a3)) else a3) = ji16 := hji16
       have H' := Aside0.mk H
       clear H
       go_wp2
       go_loopg [13, 14] kj9 (fun kq v13 v14 w' => ∃ (x13_3 : Int) (x14_3 : Int), v13 = .int .i64 x13_3 ∧ v14 = .int .i64 x14_3 ∧ Aside0 (entrepotref06_Dist.l0 kq a0 a1 ji15 ji16 (wrap64 ((wrap64 ((ji15) * (ji15))) + (wrap64 ((ji16) * (ji16))))) x13_3 x14_3 = some (r1, r2)) ∧ Aside0 (kq ≤ kj9) ∧ Aside0 (Below w.heap.size w w'))
       case atStart => exact ⟨(1), (0), (by first | rfl | (simp; done) | (simp [*]; done)), (by first | rfl | (simp; done) | (simp [*]; done)), H', ⟨Nat.le_refl _⟩, ⟨by repeat (first | (with_reducible first | exact HB.out | apply below_alloc | apply pw_below_drewN | apply below_drew1) | exact HB.out)⟩⟩
       case round =>
        clear H'
        (try clear c14)
        obtain ⟨x13_3, x14_3, rfl, rfl, HA, HK3, HB⟩ := hrel
        cases gk with
        | zero => exact absurd HA.out (by simp [entrepotref06_Dist.l0])
        | succ k3 =>
         have H := HA.out
         clear HA
         simp only [entrepotref06_Dist.l0] at H
         by_cases c17 : x14_3 < a1
         ·rw [if_pos c17] at H
          have c17b0 : decide (x14_3 < a1) = true := decide_eq_true c17
          clear c17
          have H' := Aside0.mk H
          clear H
          go_wp2
          go_roundg k3
          case measure => have := HJ4.out; have := HJ9.out; have := HK3.out; omega
          case rel => exact ⟨(wrap64 (10 * x13_3)), (wrap64 (x14_3 + 1)), (by first | rfl | (simp; done) | (simp [*]; done)), (by first | rfl | (simp; done) | (simp [*]; done)), H', ⟨by have := HJ4.out; have := HJ9.out; have := HK3.out; omega⟩, ⟨by repeat (first | (with_reducible first | exact HB.out | apply below_alloc | apply pw_below_drewN | apply below_drew1) | exact HB.out)⟩⟩
         ·rw [if_neg c17] at H
          have c17b0 : decide (x14_3 < a1) = false := decide_eq_false c17
          clear c17
          by_cases c18 : a0 = 1
          ·rw [if_pos c18] at H
           have c18b0 : (a0 == 1) = true := beq_iff_eq.mpr c18
           have c18b1 : (a0 != 1) = false := bne_eq_false_iff_eq.mpr c18
           clear c18
           replace H := Option.bind_eq_some_iff.mp H
           obtain ⟨t114, A190, H⟩ := H
           replace H : (some (t114, 0)) = some (r1, r2) := H
           have A19 := Aside0.mk A190
           clear A190
           simp only [Option.some.injEq, Prod.mk.injEq] at H
           obtain ⟨rfl, rfl⟩ := H
           go_wp2_with (first | ((with_reducible refine gate_callee (f := 31) rfl ?_); refine goesL_ (some 62) rfl rfl Tryd.func31 (by kernel_rfl) rfl #[.int .i64 (wrap64 ((wrap64 ((ji15) * (ji15))) + (wrap64 ((ji16) * (ji16))))), .int .i64 x13_3] rfl (by (try simp only [List.map_toArray, List.map_cons, List.map_nil]); first | done | (simp only [hji15, hji16]; rfl) | rfl | (simp only [List.length_drop, List.length_take]; rfl)) ?_; (with_reducible refine (entrepotref05_Near.calls k3 (wrap64 ((wrap64 ((ji15) * (ji15))) + (wrap64 ((ji16) * (ji16))))) x13_3 t114 _ A19.out).mono ?_); rintro e w' ⟨rfl, ⟨nd, rfl⟩⟩; refine ⟨_, rfl, ?_⟩))
           go_ret2
           exact ⟨by first | rfl | (simp [errW_none, errW_some] <;> rfl) | (simp only [← hji15, ← hji16]; first | rfl | (simp [errW_none, errW_some] <;> rfl)) | (simp [*, errW_none, errW_some] <;> rfl), by repeat (first | (with_reducible first | exact HB.out | apply below_alloc | apply pw_below_drewN | apply below_drew1) | exact HB.out)⟩
          ·rw [if_neg c18] at H
           have c18b0 : (a0 == 1) = false := beq_eq_false_iff_ne.mpr c18
           have c18b1 : (a0 != 1) = true := bne_iff_ne.mpr c18
           by_cases c20 : a0 = 2
           ·rw [if_pos c20] at H
            have c20b0 : (a0 == 2) = true := beq_iff_eq.mpr c20
            have c20b1 : (a0 != 2) = false := bne_eq_false_iff_eq.mpr c20
            clear c20
            replace H := Option.bind_eq_some_iff.mp H
            obtain ⟨t115, A210, H⟩ := H
            replace H : (some (t115, 0)) = some (r1, r2) := H
            have A21 := Aside0.mk A210
            clear A210
            simp only [Option.some.injEq, Prod.mk.injEq] at H
            obtain ⟨rfl, rfl⟩ := H
            go_wp2_with (first | ((with_reducible refine gate_callee (f := 32) rfl ?_); refine goesL_ (some 67) rfl rfl Tryd.func32 (by kernel_rfl) rfl #[.int .i64 (wrap64 ((wrap64 ((ji15) * (ji15))) + (wrap64 ((ji16) * (ji16))))), .int .i64 1, .int .i64 x13_3] rfl (by (try simp only [List.map_toArray, List.map_cons, List.map_nil]); first | done | (simp only [hji15, hji16]; rfl) | rfl | (simp only [List.length_drop, List.length_take]; rfl)) ?_; (with_reducible refine (entrepotref05_Ceil.calls k3 (wrap64 ((wrap64 ((ji15) * (ji15))) + (wrap64 ((ji16) * (ji16))))) 1 x13_3 t115 _ A21.out).mono ?_); rintro e w' ⟨rfl, ⟨nd, rfl⟩⟩; refine ⟨_, rfl, ?_⟩))
            go_ret2
            exact ⟨by first | rfl | (simp [errW_none, errW_some] <;> rfl) | (simp only [← hji15, ← hji16]; first | rfl | (simp [errW_none, errW_some] <;> rfl)) | (simp [*, errW_none, errW_some] <;> rfl), by repeat (first | (with_reducible first | exact HB.out | apply below_alloc | apply pw_below_drewN | apply below_drew1) | exact HB.out)⟩
           ·rw [if_neg c20] at H
            have c20b0 : (a0 == 2) = false := beq_eq_false_iff_ne.mpr c20
            have c20b1 : (a0 != 2) = true := bne_iff_ne.mpr c20
            by_cases c22 : a0 = 3
            ·rw [if_pos c22] at H
             have c22b0 : (a0 == 3) = true := beq_iff_eq.mpr c22
             have c22b1 : (a0 != 3) = false := bne_eq_false_iff_eq.mpr c22
             clear c22
             replace H := Option.bind_eq_some_iff.mp H
             obtain ⟨t116, A230, H⟩ := H
             replace H : (some (t116, 0)) = some (r1, r2) := H
             have A23 := Aside0.mk A230
             clear A230
             simp only [Option.some.injEq, Prod.mk.injEq] at H
             obtain ⟨rfl, rfl⟩ := H
             go_wp2_with (first | ((with_reducible refine gate_callee (f := 33) rfl ?_); refine goesL_ (some 74) rfl rfl Tryd.func33 (by kernel_rfl) rfl #[.int .i64 (wrap64 (ji15 + ji16)), .int .i64 x13_3] rfl (by (try simp only [List.map_toArray, List.map_cons, List.map_nil]); first | done | (simp only [hji15, hji16]; rfl) | rfl | (simp only [List.length_drop, List.length_take]; rfl)) ?_; (with_reducible refine (entrepotref06_nearest.calls (wrap64 (ji15 + ji16)) x13_3 t116 _ A23.out).mono ?_); rintro e w' ⟨rfl, ⟨nd, rfl⟩⟩; refine ⟨_, rfl, ?_⟩))
             go_ret2
             exact ⟨by first | rfl | (simp [errW_none, errW_some] <;> rfl) | (simp only [← hji15, ← hji16]; first | rfl | (simp [errW_none, errW_some] <;> rfl)) | (simp [*, errW_none, errW_some] <;> rfl), by repeat (first | (with_reducible first | exact HB.out | apply below_alloc | apply pw_below_drewN | apply below_drew1) | exact HB.out)⟩
            ·rw [if_neg c22] at H
             have c22b0 : (a0 == 3) = false := beq_eq_false_iff_ne.mpr c22
             have c22b1 : (a0 != 3) = true := bne_iff_ne.mpr c22
             by_cases c24 : a0 = 4
             ·rw [if_pos c24] at H
              have c24b0 : (a0 == 4) = true := beq_iff_eq.mpr c24
              have c24b1 : (a0 != 4) = false := bne_eq_false_iff_eq.mpr c24
              clear c24
              replace H := Option.bind_eq_some_iff.mp H
              obtain ⟨t117, A250, H⟩ := H
              replace H : ((entrepotref06_nearest.f ji16 x13_3).bind fun t118 => (some (mx t117 t118, 0))) = some (r1, r2) := H
              have A25 := Aside0.mk A250
              clear A250
              replace H := Option.bind_eq_some_iff.mp H
              obtain ⟨t118, A260, H⟩ := H
              replace H : (some (mx t117 t118, 0)) = some (r1, r2) := H
              have A26 := Aside0.mk A260
              clear A260
              obtain ⟨ji27, hji27⟩ : ∃ j_ : Int, (mx t117 t118) = j_ := ⟨_, rfl⟩
              replace H : (some (ji27, 0)) = some (r1, r2) := by first | (rw [hji27] at H; exact H) | (simp only [hji27] at H ⊢; exact H)
              (try rw [hji27] at A25)
              (try rw [hji27] at A26)
              have hji27_ : (if t117 < t118 then t118 else t117) = ji27 := hji27
              simp only [Option.some.injEq, Prod.mk.injEq] at H
              obtain ⟨rfl, rfl⟩ := H
              go_wp2_with (first | ((with_reducible refine gate_callee (f := 33) rfl ?_); refine goesL_ (some 79) rfl rfl Tryd.func33 (by kernel_rfl) rfl #[.int .i64 ji15, .int .i64 x13_3] rfl (by (try simp only [List.map_toArray, List.map_cons, List.map_nil]); first | done | (simp only [hji15]; rfl) | rfl | (simp only [List.length_drop, List.length_take]; rfl)) ?_; (with_reducible refine (entrepotref06_nearest.calls ji15 x13_3 t117 _ A25.out).mono ?_); rintro e w' ⟨rfl, ⟨nd, rfl⟩⟩; refine ⟨_, rfl, ?_⟩) | ((with_reducible refine gate_callee (f := 33) rfl ?_); refine goesL_ (some 82) rfl rfl Tryd.func33 (by kernel_rfl) rfl #[.int .i64 ji16, .int .i64 x13_3] rfl (by (try simp only [List.map_toArray, List.map_cons, List.map_nil]); first | done | (simp only [hji16]; rfl) | rfl | (simp only [List.length_drop, List.length_take]; rfl)) ?_; (with_reducible refine (entrepotref06_nearest.calls ji16 x13_3 t118 _ A26.out).mono ?_); rintro e w' ⟨rfl, ⟨nd, rfl⟩⟩; refine ⟨_, rfl, ?_⟩))
              go_ret2
              exact ⟨by first | rfl | (simp [errW_none, errW_some] <;> rfl) | (simp only [← hji15, ← hji16, ← hji27]; first | rfl | (simp [errW_none, errW_some] <;> rfl)) | (simp [*, errW_none, errW_some] <;> rfl), by repeat (first | (with_reducible first | exact HB.out | apply below_alloc | apply pw_below_drewN | apply below_drew1) | exact HB.out)⟩
             ·rw [if_neg c24] at H
              have c24b0 : (a0 == 4) = false := beq_eq_false_iff_ne.mpr c24
              have c24b1 : (a0 != 4) = true := bne_iff_ne.mpr c24
              by_cases c28 : a0 = 5
              ·rw [if_pos c28] at H
               have c28b0 : (a0 == 5) = true := beq_iff_eq.mpr c28
               have c28b1 : (a0 != 5) = false := bne_eq_false_iff_eq.mpr c28
               clear c28
               replace H := Option.bind_eq_some_iff.mp H
               obtain ⟨t119, A290, H⟩ := H
               replace H : (some (t119, 0)) = some (r1, r2) := H
               have A29 := Aside0.mk A290
               clear A290
               simp only [Option.some.injEq, Prod.mk.injEq] at H
               obtain ⟨rfl, rfl⟩ := H
               go_wp2_with (first | ((with_reducible refine gate_callee (f := 32) rfl ?_); refine goesL_ (some 88) rfl rfl Tryd.func32 (by kernel_rfl) rfl #[.int .i64 (wrap64 ((wrap64 ((ji15) * (ji15))) + (wrap64 ((ji16) * (ji16))))), .int .i64 10, .int .i64 x13_3] rfl (by (try simp only [List.map_toArray, List.map_cons, List.map_nil]); first | done | (simp only [hji15, hji16]; rfl) | rfl | (simp only [List.length_drop, List.length_take]; rfl)) ?_; (with_reducible refine (entrepotref05_Ceil.calls k3 (wrap64 ((wrap64 ((ji15) * (ji15))) + (wrap64 ((ji16) * (ji16))))) 10 x13_3 t119 _ A29.out).mono ?_); rintro e w' ⟨rfl, ⟨nd, rfl⟩⟩; refine ⟨_, rfl, ?_⟩))
               go_ret2
               exact ⟨by first | rfl | (simp [errW_none, errW_some] <;> rfl) | (simp only [← hji15, ← hji16]; first | rfl | (simp [errW_none, errW_some] <;> rfl)) | (simp [*, errW_none, errW_some] <;> rfl), by repeat (first | (with_reducible first | exact HB.out | apply below_alloc | apply pw_below_drewN | apply below_drew1) | exact HB.out)⟩
              ·rw [if_neg c28] at H
               have c28b0 : (a0 == 5) = false := beq_eq_false_iff_ne.mpr c28
               have c28b1 : (a0 != 5) = true := bne_iff_ne.mpr c28
               replace H := Option.bind_eq_some_iff.mp H
               obtain ⟨t120, A300, H⟩ := H
               replace H : (some (t120, 0)) = some (r1, r2) := H
               have A30 := Aside0.mk A300
               clear A300
               simp only [Option.some.injEq, Prod.mk.injEq] at H
               obtain ⟨rfl, rfl⟩ := H
               go_wp2_with (first | ((with_reducible refine gate_callee (f := 34) rfl ?_); refine goesL_ (some 91) rfl rfl Tryd.func34 (by kernel_rfl) rfl #[.int .i64 (wrap64 ((wrap64 ((ji15) * (ji15))) + (wrap64 ((ji16) * (ji16))))), .int .i64 10, .int .i64 x13_3] rfl (by (try simp only [List.map_toArray, List.map_cons, List.map_nil]); first | done | (simp only [hji15, hji16]; rfl) | rfl | (simp only [List.length_drop, List.length_take]; rfl)) ?_; (with_reducible refine (entrepotref05_Down.calls k3 (wrap64 ((wrap64 ((ji15) * (ji15))) + (wrap64 ((ji16) * (ji16))))) 10 x13_3 t120 _ A30.out).mono ?_); rintro e w' ⟨rfl, ⟨nd, rfl⟩⟩; refine ⟨_, rfl, ?_⟩))
               go_ret2
               exact ⟨by first | rfl | (simp [errW_none, errW_some] <;> rfl) | (simp only [← hji15, ← hji16]; first | rfl | (simp [errW_none, errW_some] <;> rfl)) | (simp [*, errW_none, errW_some] <;> rfl), by repeat (first | (with_reducible first | exact HB.out | apply below_alloc | apply pw_below_drewN | apply below_drew1) | exact HB.out)⟩

end Go.Proofs.YtdpfljkcnlamlaaDoor.P
