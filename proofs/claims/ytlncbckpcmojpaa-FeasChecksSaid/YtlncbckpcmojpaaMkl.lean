/- Texts of this session in one: The distance by the reference is the distance. Plain lemmas on numbers. -/
import Derived.Test.YtlncbckpcmojpaaPx0
import Derived.Test.YtlncbckpcmojpaaGDist
set_option linter.unusedSimpArgs false
set_option linter.unusedVariables false
namespace Go.Proofs.Ytlncbckpcmojpaa.P
open Go.RowKit Go.Proofs.YtlncbckpcmojpaaW.PrintWords Go.Proofs.YtlncbckpcmojpaaW.PrintLast Go.Proofs.YtlncbckpcmojpaaW.PrintMore
attribute [local go_sem] max2_int min2_int max_two min_two max_three min_three max_four min_four

/-! ### entrepotref07_Ints: function 23 -/
def entrepotref07_Ints.l0 : Nat → List Int → List Int → Int → Option (Bool)
 | 0, _, _, _ => none
 | k + 1, x0, x1, x5 => if x5 < (x0.length : Int) then (if 0 ≤ x5 then (if x5 < (x1.length : Int) then (if (rd x0 x5) = (rd x1 x5) then (entrepotref07_Ints.l0 k x0 x1 (wrap64 (x5 + 1))) else (some false)) else (none)) else (none)) else (some true)
def entrepotref07_Ints.f (k : Nat) (l0 : List Int) (l1 : List Int) : Option (Bool) := if (l0.length : Int) = (l1.length : Int) then (entrepotref07_Ints.l0 k l0 l1 0) else (some false)
theorem entrepotref07_Ints.mono_l : ∀ k, (∀ y0 y1 y2, LeO (entrepotref07_Ints.l0 k y0 y1 y2) (entrepotref07_Ints.l0 (k + 1) y0 y1 y2))
 | 0 => fun _ _ _ r h => by simp [entrepotref07_Ints.l0] at h
 | k + 1 => by
  have ih0 := entrepotref07_Ints.mono_l k
  ·intro y0 y1 y2
   unfold entrepotref07_Ints.l0
   repeat' first
   | (with_reducible exact ih0 _ _ _)
   | (with_reducible exact LeO.refl _)
   | (with_reducible exact LeO.none _)
   | (with_reducible refine LeO.ite ?_ ?_)
   | (with_reducible refine LeO.bind ?_ (fun _ => ?_))
   | exact ih0 _ _ _
   | exact LeO.none _
   | refine LeO.ite ?_ ?_
   | refine LeO.bind ?_ (fun _ => ?_)
theorem entrepotref07_Ints.mono : ∀ a0 a1 k, LeO (entrepotref07_Ints.f k a0 a1) (entrepotref07_Ints.f (k + 1) a0 a1) := by
 intro a0 a1 k
 have ih0 := entrepotref07_Ints.mono_l k
 unfold entrepotref07_Ints.f
 repeat' first
   | (with_reducible exact ih0 _ _ _)
   | (with_reducible exact LeO.refl _)
   | (with_reducible exact LeO.none _)
   | (with_reducible refine LeO.ite ?_ ?_)
   | (with_reducible refine LeO.bind ?_ (fun _ => ?_))
   | exact ih0 _ _ _
   | exact LeO.none _
   | refine LeO.ite ?_ ?_
   | refine LeO.bind ?_ (fun _ => ?_)
set_option maxHeartbeats 8000000 in
set_option maxRecDepth 100000 in
theorem entrepotref07_Ints.calls (k : Nat) (A0 : Option Addr) (c0 : Nat) (l0 : List Int) (A1 : Option Addr) (c1 : Nat) (l1 : List Int) (r : Bool) (w : World) (hr0 : Kd.C (Kd.int .i64) w A0 l0.length l0) (hc0 : l0.length ≤ c0) (hr1 : Kd.C (Kd.int .i64) w A1 l1.length l1) (hc1 : l1.length ≤ c1) (h : entrepotref07_Ints.f k l0 l1 = some r) :
  Calls Try.prog 23 #[.slice A0 l0.length c0, .slice A1 l1.length c1] w fun e w' => e = .returned (.bool r) ∧ Drawn0 w w' := by
 have HR0 := Aside0.mk hr0
 have HC0 := Aside0.mk hc0
 clear hr0 hc0
 have HR1 := Aside0.mk hr1
 have HC1 := Aside0.mk hc1
 clear hr1 hc1
 have H : (if (l0.length : Int) = (l1.length : Int) then (entrepotref07_Ints.l0 k l0 l1 0) else (some false)) = some r := h
 clear h
 by_cases c3 : (l0.length : Int) = (l1.length : Int)
 ·rw [if_pos c3] at H
  have c3b0 : ((l0.length : Int) == (l1.length : Int)) = true := beq_iff_eq.mpr c3
  have c3b1 : ((l0.length : Int) != (l1.length : Int)) = false := bne_eq_false_iff_eq.mpr c3
  have c3b2 : (l0.length == l1.length) = true := by first | simpa using c3 | (simp at c3 ⊢; omega)
  clear c3
  have H' := Aside0.mk H
  clear H
  go_enter Try.func23, Try.ntmps23
  go_wp2
  repeat (go_quiet (fail); try go_wp2)
  go_loopg [5] k (fun kq v5 w' => ∃ (x5_1 : Int), v5 = .int .i64 x5_1 ∧ Aside0 (entrepotref07_Ints.l0 kq l0 l1 x5_1 = some r) ∧ Aside0 (kq ≤ k) ∧ Drawn0 w w')
  case atStart => exact ⟨(0), (by first | rfl | (simp; done) | (simp [*]; done)), H', ⟨Nat.le_refl _⟩, by repeat (first | exact Drawn0.refl _ | apply Drawn0.step)⟩
  case round =>
   clear H'
   (try clear c1); (try clear c3); (try clear c3b0); (try clear c3b1); (try clear c3b2)
   obtain ⟨x5_1, rfl, HA, HK1, ⟨m1, rfl⟩⟩ := hrel
   cases gk with
   | zero => exact absurd HA.out (by simp [entrepotref07_Ints.l0])
   | succ k1 =>
    have H := HA.out
    clear HA
    simp only [entrepotref07_Ints.l0] at H
    by_cases c4 : x5_1 < (l0.length : Int)
    ·rw [if_pos c4] at H
     have c4b0 : decide (x5_1 < (l0.length : Int)) = true := decide_eq_true c4
     clear c4
     by_cases c5 : 0 ≤ x5_1
     ·rw [if_pos c5] at H
      have c5b0 : decide (0 ≤ x5_1) = true := decide_eq_true c5
      clear c5
      by_cases c6 : x5_1 < (l1.length : Int)
      ·rw [if_pos c6] at H
       have c6b0 : decide (x5_1 < (l1.length : Int)) = true := decide_eq_true c6
       clear c6
       by_cases c7 : (rd l0 x5_1) = (rd l1 x5_1)
       ·rw [if_pos c7] at H
        have c7b0 : ((rd l0 x5_1) == (rd l1 x5_1)) = true := beq_iff_eq.mpr c7
        have c7b1 : ((rd l0 x5_1) != (rd l1 x5_1)) = false := bne_eq_false_iff_eq.mpr c7
        clear c7
        have H' := Aside0.mk H
        clear H
        have p579 : 0 ≤ (x5_1 : Int) := of_decide_eq_true (by first | (with_reducible assumption) | assumption)
        have q579 : x5_1 < (l0.length : Int) := of_decide_eq_true (by first | (with_reducible assumption) | assumption)
        obtain ⟨ad579, e579, hx579_0⟩ := Kd.at_int HR0.out x5_1 p579 q579
        cases e579
        replace p579 := eq_true p579
        replace q579 := eq_true q579
        have p580 : 0 ≤ (x5_1 : Int) := of_decide_eq_true (by first | (with_reducible assumption) | assumption)
        have q580 : x5_1 < (l1.length : Int) := of_decide_eq_true (by first | (with_reducible assumption) | assumption)
        obtain ⟨ad580, e580, hx580_0⟩ := Kd.at_int HR1.out x5_1 p580 q580
        cases e580
        replace p580 := eq_true p580
        replace q580 := eq_true q580
        go_wp2
        repeat (go_quiet (fail); try go_wp2)
        go_roundg k1
        case measure => have := HK1.out; omega
        case rel => exact ⟨(wrap64 (x5_1 + 1)), (by first | rfl | (simp; done) | (simp [*]; done)), H', ⟨by have := HK1.out; omega⟩, by repeat (first | exact Drawn0.refl _ | apply Drawn0.step)⟩
       ·rw [if_neg c7] at H
        have c7b0 : ((rd l0 x5_1) == (rd l1 x5_1)) = false := beq_eq_false_iff_ne.mpr c7
        have c7b1 : ((rd l0 x5_1) != (rd l1 x5_1)) = true := bne_iff_ne.mpr c7
        obtain rfl := Option.some.inj H
        have p579 : 0 ≤ (x5_1 : Int) := of_decide_eq_true (by first | (with_reducible assumption) | assumption)
        have q579 : x5_1 < (l0.length : Int) := of_decide_eq_true (by first | (with_reducible assumption) | assumption)
        obtain ⟨ad579, e579, hx579_0⟩ := Kd.at_int HR0.out x5_1 p579 q579
        cases e579
        replace p579 := eq_true p579
        replace q579 := eq_true q579
        have p580 : 0 ≤ (x5_1 : Int) := of_decide_eq_true (by first | (with_reducible assumption) | assumption)
        have q580 : x5_1 < (l1.length : Int) := of_decide_eq_true (by first | (with_reducible assumption) | assumption)
        obtain ⟨ad580, e580, hx580_0⟩ := Kd.at_int HR1.out x5_1 p580 q580
        cases e580
        replace p580 := eq_true p580
        replace q580 := eq_true q580
        go_wp2
        repeat (go_quiet (fail); try go_wp2)
        go_ret
        exact ⟨by first | rfl | (simp; done) | (simp [*]; done), by repeat (first | exact Drawn0.refl _ | apply Drawn0.step)⟩
      ·rw [if_neg c6] at H
       exact absurd H (by simp)
     ·rw [if_neg c5] at H
      exact absurd H (by simp)
    ·rw [if_neg c4] at H
     have c4b0 : decide (x5_1 < (l0.length : Int)) = false := decide_eq_false c4
     clear c4
     obtain rfl := Option.some.inj H
     go_wp2
     repeat (go_quiet (fail); try go_wp2)
     go_ret
     exact ⟨by first | rfl | (simp; done) | (simp [*]; done), by repeat (first | exact Drawn0.refl _ | apply Drawn0.step)⟩
 ·rw [if_neg c3] at H
  have c3b0 : ((l0.length : Int) == (l1.length : Int)) = false := beq_eq_false_iff_ne.mpr c3
  have c3b1 : ((l0.length : Int) != (l1.length : Int)) = true := bne_iff_ne.mpr c3
  have c3b2 : (l0.length == l1.length) = false := by first | simpa using c3 | (simp at c3 ⊢; omega)
  obtain rfl := Option.some.inj H
  go_enter Try.func23, Try.ntmps23
  go_wp2
  repeat (go_quiet (fail); try go_wp2)
  go_ret
  exact ⟨by first | rfl | (simp; done) | (simp [*]; done), by repeat (first | exact Drawn0.refl _ | apply Drawn0.step)⟩

end Go.Proofs.Ytlncbckpcmojpaa.P
namespace Go.Proofs.Ytlncbckpcmojpaa.P
open Go.RowKit Go.Proofs.YtlncbckpcmojpaaW.PrintWords Go.Proofs.YtlncbckpcmojpaaW.PrintLast Go.Proofs.YtlncbckpcmojpaaW.PrintMore
attribute [local go_sem] max2_int min2_int max_two min_two max_three min_three max_four min_four

/-! ### entrepotref05_holds: function 103 -/
def entrepotref05_holds.f (a0 : Int) (a1 : Int) (a2 : Int) (a3 : Int) (a4 : Int) : Option (Bool) := if a4 = 0 then (none) else (if a1 > (wrap64 (Int.tdiv (3000000000 : Int) a4)) then (some false) else (if a0 = 0 then (if a1 < (wrap64 (Int.tdiv (1000000000 : Int) a4)) then (some (decide ((wrap64 ((wrap64 ((wrap64 ((wrap64 (2 * a1)) - 1)) * a4)) * (wrap64 ((wrap64 ((wrap64 (2 * a1)) - 1)) * a4)))) ≤ (wrap64 (4 * a2))))) else (some false)) else (if a0 = 1 then (some (decide ((wrap64 ((wrap64 (a1 * a4)) * (wrap64 (a1 * a4)))) ≤ (wrap64 ((wrap64 (a3 * a3)) * a2))))) else (if a1 ≤ (wrap64 (Int.tdiv (300000000 : Int) a4)) then (some (decide ((wrap64 (a3 * (wrap64 ((wrap64 (a1 * a4)) * (wrap64 (a1 * a4)))))) < a2))) else (some false)))))
set_option maxHeartbeats 8000000 in
set_option maxRecDepth 100000 in
theorem entrepotref05_holds.calls (a0 : Int) (a1 : Int) (a2 : Int) (a3 : Int) (a4 : Int) (r : Bool) (w : World) (h : entrepotref05_holds.f a0 a1 a2 a3 a4 = some r) :
  Calls Try.prog 103 #[.int .i64 a0, .int .i64 a1, .int .i64 a2, .int .i64 a3, .int .i64 a4] w fun e w' => e = .returned (.bool r) ∧ Drawn0 w w' := by
 have H : (if a4 = 0 then (none) else (if a1 > (wrap64 (Int.tdiv (3000000000 : Int) a4)) then (some false) else (if a0 = 0 then (if a1 < (wrap64 (Int.tdiv (1000000000 : Int) a4)) then (some (decide ((wrap64 ((wrap64 ((wrap64 ((wrap64 (2 * a1)) - 1)) * a4)) * (wrap64 ((wrap64 ((wrap64 (2 * a1)) - 1)) * a4)))) ≤ (wrap64 (4 * a2))))) else (some false)) else (if a0 = 1 then (some (decide ((wrap64 ((wrap64 (a1 * a4)) * (wrap64 (a1 * a4)))) ≤ (wrap64 ((wrap64 (a3 * a3)) * a2))))) else (if a1 ≤ (wrap64 (Int.tdiv (300000000 : Int) a4)) then (some (decide ((wrap64 (a3 * (wrap64 ((wrap64 (a1 * a4)) * (wrap64 (a1 * a4)))))) < a2))) else (some false)))))) = some r := h
 clear h
 by_cases c6 : a4 = 0
 ·rw [if_pos c6] at H
  exact absurd H (by simp)
 ·rw [if_neg c6] at H
  have c6b0 : (a4 == 0) = false := beq_eq_false_iff_ne.mpr c6
  have c6b1 : (a4 != 0) = true := bne_iff_ne.mpr c6
  by_cases c7 : a1 > (wrap64 (Int.tdiv (3000000000 : Int) a4))
  ·rw [if_pos c7] at H
   have c7b0 : decide ((wrap64 (Int.tdiv (3000000000 : Int) a4)) < a1) = true := decide_eq_true c7
   clear c7
   obtain rfl := Option.some.inj H
   go_enter Try.func103, Try.ntmps103
   go_wp2
   go_ret
   exact ⟨by first | rfl | (simp; done) | (simp [*]; done), by repeat (first | exact Drawn0.refl _ | apply Drawn0.step)⟩
  ·rw [if_neg c7] at H
   have c7b0 : decide ((wrap64 (Int.tdiv (3000000000 : Int) a4)) < a1) = false := decide_eq_false c7
   clear c7
   by_cases c8 : a0 = 0
   ·rw [if_pos c8] at H
    have c8b0 : (a0 == 0) = true := beq_iff_eq.mpr c8
    have c8b1 : (a0 != 0) = false := bne_eq_false_iff_eq.mpr c8
    clear c8
    by_cases c9 : a1 < (wrap64 (Int.tdiv (1000000000 : Int) a4))
    ·rw [if_pos c9] at H
     have c9b0 : decide (a1 < (wrap64 (Int.tdiv (1000000000 : Int) a4))) = true := decide_eq_true c9
     clear c9
     obtain rfl := Option.some.inj H
     go_enter Try.func103, Try.ntmps103
     go_wp2
     go_ret
     exact ⟨by first | rfl | (simp; done) | (simp [*]; done), by repeat (first | exact Drawn0.refl _ | apply Drawn0.step)⟩
    ·rw [if_neg c9] at H
     have c9b0 : decide (a1 < (wrap64 (Int.tdiv (1000000000 : Int) a4))) = false := decide_eq_false c9
     clear c9
     obtain rfl := Option.some.inj H
     go_enter Try.func103, Try.ntmps103
     go_wp2
     go_ret
     exact ⟨by first | rfl | (simp; done) | (simp [*]; done), by repeat (first | exact Drawn0.refl _ | apply Drawn0.step)⟩
   ·rw [if_neg c8] at H
    have c8b0 : (a0 == 0) = false := beq_eq_false_iff_ne.mpr c8
    have c8b1 : (a0 != 0) = true := bne_iff_ne.mpr c8
    by_cases c10 : a0 = 1
    ·rw [if_pos c10] at H
     have c10b0 : (a0 == 1) = true := beq_iff_eq.mpr c10
     have c10b1 : (a0 != 1) = false := bne_eq_false_iff_eq.mpr c10
     clear c10
     obtain rfl := Option.some.inj H
     go_enter Try.func103, Try.ntmps103
     go_wp2
     go_ret
     exact ⟨by first | rfl | (simp; done) | (simp [*]; done), by repeat (first | exact Drawn0.refl _ | apply Drawn0.step)⟩
    ·rw [if_neg c10] at H
     have c10b0 : (a0 == 1) = false := beq_eq_false_iff_ne.mpr c10
     have c10b1 : (a0 != 1) = true := bne_iff_ne.mpr c10
     by_cases c11 : a1 ≤ (wrap64 (Int.tdiv (300000000 : Int) a4))
     ·rw [if_pos c11] at H
      have c11b0 : decide (a1 ≤ (wrap64 (Int.tdiv (300000000 : Int) a4))) = true := decide_eq_true c11
      clear c11
      obtain rfl := Option.some.inj H
      go_enter Try.func103, Try.ntmps103
      go_wp2
      go_ret
      exact ⟨by first | rfl | (simp; done) | (simp [*]; done), by repeat (first | exact Drawn0.refl _ | apply Drawn0.step)⟩
     ·rw [if_neg c11] at H
      have c11b0 : decide (a1 ≤ (wrap64 (Int.tdiv (300000000 : Int) a4))) = false := decide_eq_false c11
      clear c11
      obtain rfl := Option.some.inj H
      go_enter Try.func103, Try.ntmps103
      go_wp2
      go_ret
      exact ⟨by first | rfl | (simp; done) | (simp [*]; done), by repeat (first | exact Drawn0.refl _ | apply Drawn0.step)⟩

end Go.Proofs.Ytlncbckpcmojpaa.P
namespace Go.Proofs.Ytlncbckpcmojpaa.P
open Go.RowKit Go.Proofs.YtlncbckpcmojpaaW.PrintWords Go.Proofs.YtlncbckpcmojpaaW.PrintLast Go.Proofs.YtlncbckpcmojpaaW.PrintMore
attribute [local go_sem] max2_int min2_int max_two min_two max_three min_three max_four min_four

/-! ### entrepotref05_greatest: function 101 -/
def entrepotref05_greatest.l0 : Nat → Int → Int → Int → Int → Int → Int → Option (Int)
 | 0, _, _, _, _, _, _ => none
 | k + 1, x0, x1, x2, x3, x9, x10 => if x10 > 0 then ((entrepotref05_holds.f x0 (wrap64 (x9 + x10)) x1 x2 x3).bind fun t406 => (if t406 = true then (entrepotref05_greatest.l0 k x0 x1 x2 x3 (wrap64 (x9 + x10)) (wrap64 (Int.tdiv x10 2))) else (entrepotref05_greatest.l0 k x0 x1 x2 x3 x9 (wrap64 (Int.tdiv x10 2))))) else (some x9)
def entrepotref05_greatest.f (k : Nat) (a0 : Int) (a1 : Int) (a2 : Int) (a3 : Int) : Option (Int) := entrepotref05_greatest.l0 k a0 a1 a2 a3 0 2147483648
theorem entrepotref05_greatest.mono_l : ∀ k, (∀ y0 y1 y2 y3 y4 y5, LeO (entrepotref05_greatest.l0 k y0 y1 y2 y3 y4 y5) (entrepotref05_greatest.l0 (k + 1) y0 y1 y2 y3 y4 y5))
 | 0 => fun _ _ _ _ _ _ r h => by simp [entrepotref05_greatest.l0] at h
 | k + 1 => by
  have ih0 := entrepotref05_greatest.mono_l k
  ·intro y0 y1 y2 y3 y4 y5
   unfold entrepotref05_greatest.l0
   repeat' first
   | (with_reducible exact ih0 _ _ _ _ _ _)
   | (with_reducible exact LeO.refl _)
   | (with_reducible exact LeO.none _)
   | (with_reducible refine LeO.ite ?_ ?_)
   | (with_reducible refine LeO.bind ?_ (fun _ => ?_))
   | exact ih0 _ _ _ _ _ _
   | exact LeO.none _
   | refine LeO.ite ?_ ?_
   | refine LeO.bind ?_ (fun _ => ?_)
theorem entrepotref05_greatest.mono : ∀ a0 a1 a2 a3 k, LeO (entrepotref05_greatest.f k a0 a1 a2 a3) (entrepotref05_greatest.f (k + 1) a0 a1 a2 a3) := by
 intro a0 a1 a2 a3 k
 have ih0 := entrepotref05_greatest.mono_l k
 unfold entrepotref05_greatest.f
 repeat' first
   | (with_reducible exact ih0 _ _ _ _ _ _)
   | (with_reducible exact LeO.refl _)
   | (with_reducible exact LeO.none _)
   | (with_reducible refine LeO.ite ?_ ?_)
   | (with_reducible refine LeO.bind ?_ (fun _ => ?_))
   | exact ih0 _ _ _ _ _ _
   | exact LeO.none _
   | refine LeO.ite ?_ ?_
   | refine LeO.bind ?_ (fun _ => ?_)
set_option maxHeartbeats 8000000 in
set_option maxRecDepth 100000 in
theorem entrepotref05_greatest.calls (k : Nat) (a0 : Int) (a1 : Int) (a2 : Int) (a3 : Int) (r : Int) (w : World) (h : entrepotref05_greatest.f k a0 a1 a2 a3 = some r) :
  Calls Try.prog 101 #[.int .i64 a0, .int .i64 a1, .int .i64 a2, .int .i64 a3] w fun e w' => e = .returned (.int .i64 r) ∧ Drawn0 w w' := by
 have H : (entrepotref05_greatest.l0 k a0 a1 a2 a3 0 2147483648) = some r := h
 clear h
 have H' := Aside0.mk H
 clear H
 go_enter Try.func101, Try.ntmps101
 go_wp2
 go_loopg [9, 10] k (fun kq v9 v10 w' => ∃ (x9_1 : Int) (x10_1 : Int), v9 = .int .i64 x9_1 ∧ v10 = .int .i64 x10_1 ∧ Aside0 (entrepotref05_greatest.l0 kq a0 a1 a2 a3 x9_1 x10_1 = some r) ∧ Aside0 (kq ≤ k) ∧ Drawn0 w w')
 case atStart => exact ⟨(0), (2147483648), (by first | rfl | (simp; done) | (simp [*]; done)), (by first | rfl | (simp; done) | (simp [*]; done)), H', ⟨Nat.le_refl _⟩, by repeat (first | exact Drawn0.refl _ | apply Drawn0.step)⟩
 case round =>
  clear H'
  obtain ⟨x9_1, x10_1, rfl, rfl, HA, HK1, ⟨m1, rfl⟩⟩ := hrel
  cases gk with
  | zero => exact absurd HA.out (by simp [entrepotref05_greatest.l0])
  | succ k1 =>
   have H := HA.out
   clear HA
   simp only [entrepotref05_greatest.l0] at H
   by_cases c5 : x10_1 > 0
   ·rw [if_pos c5] at H
    have c5b0 : decide (0 < x10_1) = true := decide_eq_true c5
    clear c5
    replace H := Option.bind_eq_some_iff.mp H
    obtain ⟨t406, A60, H⟩ := H
    replace H : (if t406 = true then (entrepotref05_greatest.l0 k1 a0 a1 a2 a3 (wrap64 (x9_1 + x10_1)) (wrap64 (Int.tdiv x10_1 2))) else (entrepotref05_greatest.l0 k1 a0 a1 a2 a3 x9_1 (wrap64 (Int.tdiv x10_1 2)))) = some r := H
    have A6 := Aside0.mk A60
    clear A60
    by_cases c7 : t406 = true
    ·subst c7
     have H1 : (entrepotref05_greatest.l0 k1 a0 a1 a2 a3 (wrap64 (x9_1 + x10_1)) (wrap64 (Int.tdiv x10_1 2))) = some r := by rw [if_pos rfl] at H; exact H
     clear H
     have H := H1
     clear H1
     have H' := Aside0.mk H
     clear H
     go_wp2_with (first | ((with_reducible refine gate_callee (f := 103) rfl ?_); refine goesL_ (some 22) rfl rfl Try.func103 (by kernel_rfl) rfl #[.int .i64 a0, .int .i64 (wrap64 (x9_1 + x10_1)), .int .i64 a1, .int .i64 a2, .int .i64 a3] rfl (by (try simp only [List.map_toArray, List.map_cons, List.map_nil]); first | done | rfl | (simp only [List.length_drop, List.length_take]; rfl)) ?_; (with_reducible refine (entrepotref05_holds.calls a0 (wrap64 (x9_1 + x10_1)) a1 a2 a3 true _ A6.out).mono ?_); rintro e w' ⟨rfl, ⟨nd, rfl⟩⟩; refine ⟨_, rfl, ?_⟩))
     go_roundg k1
     case measure => have := HK1.out; omega
     case rel => exact ⟨(wrap64 (x9_1 + x10_1)), (wrap64 (Int.tdiv x10_1 2)), (by first | rfl | (simp; done) | (simp [*]; done)), (by first | rfl | (simp; done) | (simp [*]; done)), H', ⟨by have := HK1.out; omega⟩, by repeat (first | exact Drawn0.refl _ | apply Drawn0.step)⟩
    ·replace c7 := Bool.eq_false_iff.mpr c7
     subst c7
     have H1 : (entrepotref05_greatest.l0 k1 a0 a1 a2 a3 x9_1 (wrap64 (Int.tdiv x10_1 2))) = some r := by rw [if_neg (show ¬ (false = true) by decide)] at H; exact H
     clear H
     have H := H1
     clear H1
     have H' := Aside0.mk H
     clear H
     go_wp2_with (first | ((with_reducible refine gate_callee (f := 103) rfl ?_); refine goesL_ (some 22) rfl rfl Try.func103 (by kernel_rfl) rfl #[.int .i64 a0, .int .i64 (wrap64 (x9_1 + x10_1)), .int .i64 a1, .int .i64 a2, .int .i64 a3] rfl (by (try simp only [List.map_toArray, List.map_cons, List.map_nil]); first | done | rfl | (simp only [List.length_drop, List.length_take]; rfl)) ?_; (with_reducible refine (entrepotref05_holds.calls a0 (wrap64 (x9_1 + x10_1)) a1 a2 a3 false _ A6.out).mono ?_); rintro e w' ⟨rfl, ⟨nd, rfl⟩⟩; refine ⟨_, rfl, ?_⟩))
     go_roundg k1
     case measure => have := HK1.out; omega
     case rel => exact ⟨(x9_1), (wrap64 (Int.tdiv x10_1 2)), (by first | rfl | (simp; done) | (simp [*]; done)), (by first | rfl | (simp; done) | (simp [*]; done)), H', ⟨by have := HK1.out; omega⟩, by repeat (first | exact Drawn0.refl _ | apply Drawn0.step)⟩
   ·rw [if_neg c5] at H
    have c5b0 : decide (0 < x10_1) = false := decide_eq_false c5
    clear c5
    obtain rfl := Option.some.inj H
    go_wp2
    go_ret
    exact ⟨by first | rfl | (simp; done) | (simp [*]; done), by repeat (first | exact Drawn0.refl _ | apply Drawn0.step)⟩

end Go.Proofs.Ytlncbckpcmojpaa.P
namespace Go.Proofs.Ytlncbckpcmojpaa.P
open Go.RowKit Go.Proofs.YtlncbckpcmojpaaW.PrintWords Go.Proofs.YtlncbckpcmojpaaW.PrintLast Go.Proofs.YtlncbckpcmojpaaW.PrintMore
attribute [local go_sem] max2_int min2_int max_two min_two max_three min_three max_four min_four

/-! ### entrepotref05_Near: function 94 -/
def entrepotref05_Near.f (k : Nat) (a0 : Int) (a1 : Int) : Option (Int) := (entrepotref05_greatest.f k 0 a0 0 a1).bind fun t407 => (some t407)
theorem entrepotref05_Near.mono : ∀ a0 a1 k, LeO (entrepotref05_Near.f k a0 a1) (entrepotref05_Near.f (k + 1) a0 a1) := by
 intro a0 a1 k
 unfold entrepotref05_Near.f
 repeat' first
   | (with_reducible exact entrepotref05_greatest.mono _ _ _ _ _)
   | (with_reducible exact LeO.refl _)
   | (with_reducible exact LeO.none _)
   | (with_reducible refine LeO.ite ?_ ?_)
   | (with_reducible refine LeO.bind ?_ (fun _ => ?_))
   | exact entrepotref05_greatest.mono _ _ _ _ _
   | exact LeO.none _
   | refine LeO.ite ?_ ?_
   | refine LeO.bind ?_ (fun _ => ?_)
set_option maxHeartbeats 8000000 in
set_option maxRecDepth 100000 in
theorem entrepotref05_Near.calls (k : Nat) (a0 : Int) (a1 : Int) (r : Int) (w : World) (h : entrepotref05_Near.f k a0 a1 = some r) :
  Calls Try.prog 94 #[.int .i64 a0, .int .i64 a1] w fun e w' => e = .returned (.int .i64 r) ∧ Drawn0 w w' := by
 have H : ((entrepotref05_greatest.f k 0 a0 0 a1).bind fun t407 => (some t407)) = some r := h
 clear h
 replace H := Option.bind_eq_some_iff.mp H
 obtain ⟨t407, A30, H⟩ := H
 replace H : (some t407) = some r := H
 have A3 := Aside0.mk A30
 clear A30
 obtain rfl := Option.some.inj H
 go_enter Try.func94, Try.ntmps94
 go_wp2_with (first | ((with_reducible refine gate_callee (f := 101) rfl ?_); refine goesL_ (some 7) rfl rfl Try.func101 (by kernel_rfl) rfl #[.int .i64 0, .int .i64 a0, .int .i64 0, .int .i64 a1] rfl (by (try simp only [List.map_toArray, List.map_cons, List.map_nil]); first | done | rfl | (simp only [List.length_drop, List.length_take]; rfl)) ?_; (with_reducible refine (entrepotref05_greatest.calls k 0 a0 0 a1 t407 _ A3.out).mono ?_); rintro e w' ⟨rfl, ⟨nd, rfl⟩⟩; refine ⟨_, rfl, ?_⟩))
 go_ret
 exact ⟨by first | rfl | (simp; done) | (simp [*]; done), by repeat (first | exact Drawn0.refl _ | apply Drawn0.step)⟩

end Go.Proofs.Ytlncbckpcmojpaa.P
namespace Go.Proofs.Ytlncbckpcmojpaa.P
open Go.RowKit Go.Proofs.YtlncbckpcmojpaaW.PrintWords Go.Proofs.YtlncbckpcmojpaaW.PrintLast Go.Proofs.YtlncbckpcmojpaaW.PrintMore
attribute [local go_sem] max2_int min2_int max_two min_two max_three min_three max_four min_four

/-! ### entrepotref05_Ceil: function 95 -/
def entrepotref05_Ceil.f (k : Nat) (a0 : Int) (a1 : Int) (a2 : Int) : Option (Int) := if a0 = 0 then (some 0) else ((entrepotref05_greatest.f k 2 a0 a1 a2).bind fun t408 => (some (wrap64 (t408 + 1))))
theorem entrepotref05_Ceil.mono : ∀ a0 a1 a2 k, LeO (entrepotref05_Ceil.f k a0 a1 a2) (entrepotref05_Ceil.f (k + 1) a0 a1 a2) := by
 intro a0 a1 a2 k
 unfold entrepotref05_Ceil.f
 repeat' first
   | (with_reducible exact entrepotref05_greatest.mono _ _ _ _ _)
   | (with_reducible exact LeO.refl _)
   | (with_reducible exact LeO.none _)
   | (with_reducible refine LeO.ite ?_ ?_)
   | (with_reducible refine LeO.bind ?_ (fun _ => ?_))
   | exact entrepotref05_greatest.mono _ _ _ _ _
   | exact LeO.none _
   | refine LeO.ite ?_ ?_
   | refine LeO.bind ?_ (fun _ => ?_)
set_option maxHeartbeats 8000000 in
set_option maxRecDepth 100000 in
theorem entrepotref05_Ceil.calls (k : Nat) (a0 : Int) (a1 : Int) (a2 : Int) (r : Int) (w : World) (h : entrepotref05_Ceil.f k a0 a1 a2 = some r) :
  Calls Try.prog 95 #[.int .i64 a0, .int .i64 a1, .int .i64 a2] w fun e w' => e = .returned (.int .i64 r) ∧ Drawn0 w w' := by
 have H : (if a0 = 0 then (some 0) else ((entrepotref05_greatest.f k 2 a0 a1 a2).bind fun t408 => (some (wrap64 (t408 + 1))))) = some r := h
 clear h
 by_cases c4 : a0 = 0
 ·rw [if_pos c4] at H
  have c4b0 : (a0 == 0) = true := beq_iff_eq.mpr c4
  have c4b1 : (a0 != 0) = false := bne_eq_false_iff_eq.mpr c4
  clear c4
  obtain rfl := Option.some.inj H
  go_enter Try.func95, Try.ntmps95
  go_wp2
  go_ret
  exact ⟨by first | rfl | (simp; done) | (simp [*]; done), by repeat (first | exact Drawn0.refl _ | apply Drawn0.step)⟩
 ·rw [if_neg c4] at H
  have c4b0 : (a0 == 0) = false := beq_eq_false_iff_ne.mpr c4
  have c4b1 : (a0 != 0) = true := bne_iff_ne.mpr c4
  replace H := Option.bind_eq_some_iff.mp H
  obtain ⟨t408, A50, H⟩ := H
  replace H : (some (wrap64 (t408 + 1))) = some r := H
  have A5 := Aside0.mk A50
  clear A50
  obtain rfl := Option.some.inj H
  go_enter Try.func95, Try.ntmps95
  go_wp2_with (first | ((with_reducible refine gate_callee (f := 101) rfl ?_); refine goesL_ (some 12) rfl rfl Try.func101 (by kernel_rfl) rfl #[.int .i64 2, .int .i64 a0, .int .i64 a1, .int .i64 a2] rfl (by (try simp only [List.map_toArray, List.map_cons, List.map_nil]); first | done | rfl | (simp only [List.length_drop, List.length_take]; rfl)) ?_; (with_reducible refine (entrepotref05_greatest.calls k 2 a0 a1 a2 t408 _ A5.out).mono ?_); rintro e w' ⟨rfl, ⟨nd, rfl⟩⟩; refine ⟨_, rfl, ?_⟩))
  go_ret
  exact ⟨by first | rfl | (simp; done) | (simp [*]; done), by repeat (first | exact Drawn0.refl _ | apply Drawn0.step)⟩

end Go.Proofs.Ytlncbckpcmojpaa.P
namespace Go.Proofs.Ytlncbckpcmojpaa.P
open Go.RowKit Go.Proofs.YtlncbckpcmojpaaW.PrintWords Go.Proofs.YtlncbckpcmojpaaW.PrintLast Go.Proofs.YtlncbckpcmojpaaW.PrintMore
attribute [local go_sem] max2_int min2_int max_two min_two max_three min_three max_four min_four

/-! ### entrepotref05_Down: function 97 -/
def entrepotref05_Down.f (k : Nat) (a0 : Int) (a1 : Int) (a2 : Int) : Option (Int) := (entrepotref05_greatest.f k 1 a0 a1 a2).bind fun t409 => (some t409)
theorem entrepotref05_Down.mono : ∀ a0 a1 a2 k, LeO (entrepotref05_Down.f k a0 a1 a2) (entrepotref05_Down.f (k + 1) a0 a1 a2) := by
 intro a0 a1 a2 k
 unfold entrepotref05_Down.f
 repeat' first
   | (with_reducible exact entrepotref05_greatest.mono _ _ _ _ _)
   | (with_reducible exact LeO.refl _)
   | (with_reducible exact LeO.none _)
   | (with_reducible refine LeO.ite ?_ ?_)
   | (with_reducible refine LeO.bind ?_ (fun _ => ?_))
   | exact entrepotref05_greatest.mono _ _ _ _ _
   | exact LeO.none _
   | refine LeO.ite ?_ ?_
   | refine LeO.bind ?_ (fun _ => ?_)
set_option maxHeartbeats 8000000 in
set_option maxRecDepth 100000 in
theorem entrepotref05_Down.calls (k : Nat) (a0 : Int) (a1 : Int) (a2 : Int) (r : Int) (w : World) (h : entrepotref05_Down.f k a0 a1 a2 = some r) :
  Calls Try.prog 97 #[.int .i64 a0, .int .i64 a1, .int .i64 a2] w fun e w' => e = .returned (.int .i64 r) ∧ Drawn0 w w' := by
 have H : ((entrepotref05_greatest.f k 1 a0 a1 a2).bind fun t409 => (some t409)) = some r := h
 clear h
 replace H := Option.bind_eq_some_iff.mp H
 obtain ⟨t409, A40, H⟩ := H
 replace H : (some t409) = some r := H
 have A4 := Aside0.mk A40
 clear A40
 obtain rfl := Option.some.inj H
 go_enter Try.func97, Try.ntmps97
 go_wp2_with (first | ((with_reducible refine gate_callee (f := 101) rfl ?_); refine goesL_ (some 10) rfl rfl Try.func101 (by kernel_rfl) rfl #[.int .i64 1, .int .i64 a0, .int .i64 a1, .int .i64 a2] rfl (by (try simp only [List.map_toArray, List.map_cons, List.map_nil]); first | done | rfl | (simp only [List.length_drop, List.length_take]; rfl)) ?_; (with_reducible refine (entrepotref05_greatest.calls k 1 a0 a1 a2 t409 _ A4.out).mono ?_); rintro e w' ⟨rfl, ⟨nd, rfl⟩⟩; refine ⟨_, rfl, ?_⟩))
 go_ret
 exact ⟨by first | rfl | (simp; done) | (simp [*]; done), by repeat (first | exact Drawn0.refl _ | apply Drawn0.step)⟩

end Go.Proofs.Ytlncbckpcmojpaa.P
namespace Go.Proofs.Ytlncbckpcmojpaa.P
open Go.RowKit Go.Proofs.YtlncbckpcmojpaaW.PrintWords Go.Proofs.YtlncbckpcmojpaaW.PrintLast Go.Proofs.YtlncbckpcmojpaaW.PrintMore
attribute [local go_sem] max2_int min2_int max_two min_two max_three min_three max_four min_four

/-! ### entrepotref06_far: function 93 -/
def entrepotref06_far.f (a0 : Int) : Option (Bool) := if a0 < (-200000000) then (some true) else (some (decide (a0 > 200000000)))
set_option maxHeartbeats 8000000 in
set_option maxRecDepth 100000 in
theorem entrepotref06_far.calls (a0 : Int) (r : Bool) (w : World) (h : entrepotref06_far.f a0 = some r) :
  Calls Try.prog 93 #[.int .i64 a0] w fun e w' => e = .returned (.bool r) ∧ Drawn0 w w' := by
 have H : (if a0 < (-200000000) then (some true) else (some (decide (a0 > 200000000)))) = some r := h
 clear h
 by_cases c2 : a0 < (-200000000)
 ·rw [if_pos c2] at H
  have c2b0 : decide (a0 < (-200000000)) = true := decide_eq_true c2
  clear c2
  obtain rfl := Option.some.inj H
  go_enter Try.func93, Try.ntmps93
  go_wp2
  go_ret
  exact ⟨by first | rfl | (simp; done) | (simp [*]; done), by repeat (first | exact Drawn0.refl _ | apply Drawn0.step)⟩
 ·rw [if_neg c2] at H
  have c2b0 : decide (a0 < (-200000000)) = false := decide_eq_false c2
  clear c2
  obtain rfl := Option.some.inj H
  go_enter Try.func93, Try.ntmps93
  go_wp2
  go_ret
  exact ⟨by first | rfl | (simp; done) | (simp [*]; done), by repeat (first | exact Drawn0.refl _ | apply Drawn0.step)⟩

end Go.Proofs.Ytlncbckpcmojpaa.P
namespace Go.Proofs.Ytlncbckpcmojpaa.P
open Go.RowKit Go.Proofs.YtlncbckpcmojpaaW.PrintWords Go.Proofs.YtlncbckpcmojpaaW.PrintLast Go.Proofs.YtlncbckpcmojpaaW.PrintMore
attribute [local go_sem] max2_int min2_int max_two min_two max_three min_three max_four min_four

/-! ### entrepotref06_nearest: function 96 -/
def entrepotref06_nearest.f (a0 : Int) (a1 : Int) : Option (Int) := if (wrap64 (2 * a1)) = 0 then (none) else (some (wrap64 (Int.tdiv (wrap64 ((wrap64 (2 * a0)) + a1)) (wrap64 (2 * a1)))))
set_option maxHeartbeats 8000000 in
set_option maxRecDepth 100000 in
theorem entrepotref06_nearest.calls (a0 : Int) (a1 : Int) (r : Int) (w : World) (h : entrepotref06_nearest.f a0 a1 = some r) :
  Calls Try.prog 96 #[.int .i64 a0, .int .i64 a1] w fun e w' => e = .returned (.int .i64 r) ∧ Drawn0 w w' := by
 have H : (if (wrap64 (2 * a1)) = 0 then (none) else (some (wrap64 (Int.tdiv (wrap64 ((wrap64 (2 * a0)) + a1)) (wrap64 (2 * a1)))))) = some r := h
 clear h
 by_cases c3 : (wrap64 (2 * a1)) = 0
 ·rw [if_pos c3] at H
  exact absurd H (by simp)
 ·rw [if_neg c3] at H
  have c3b0 : ((wrap64 (2 * a1)) == 0) = false := beq_eq_false_iff_ne.mpr c3
  have c3b1 : ((wrap64 (2 * a1)) != 0) = true := bne_iff_ne.mpr c3
  obtain rfl := Option.some.inj H
  go_enter Try.func96, Try.ntmps96
  go_wp2
  go_ret
  exact ⟨by first | rfl | (simp; done) | (simp [*]; done), by repeat (first | exact Drawn0.refl _ | apply Drawn0.step)⟩

end Go.Proofs.Ytlncbckpcmojpaa.P
namespace Go.Proofs.Ytlncbckpcmojpaa.P
open Go.RowKit Go.Proofs.YtlncbckpcmojpaaW.PrintWords Go.Proofs.YtlncbckpcmojpaaW.PrintLast Go.Proofs.YtlncbckpcmojpaaW.PrintMore
attribute [local go_sem] max2_int min2_int max_two min_two max_three min_three max_four min_four

/-! ### entrepotref06_Dist: function 75 -/
mutual
def entrepotref06_Dist.j0 : Nat → Int → Int → Int → Int → Bool → Option (Int × Int)
 | 0, _, _, _, _, _ => none
 | k + 1, x0, x1, x2, x3, x28 => if x28 = true then (some (0, 1)) else ((entrepotref06_far.f x2).bind fun t410 => (if t410 = true then (entrepotref06_Dist.j1 k x0 x1 x2 x3 true) else ((entrepotref06_far.f x3).bind fun t411 => (entrepotref06_Dist.j1 k x0 x1 x2 x3 t411))))
def entrepotref06_Dist.j1 : Nat → Int → Int → Int → Int → Bool → Option (Int × Int)
 | 0, _, _, _, _, _ => none
 | k + 1, x0, x1, x2, x3, x34 => if x34 = true then (some (0, 2)) else (entrepotref06_Dist.l0 k x0 x1 (mx x2 (wrap64 (-x2))) (mx x3 (wrap64 (-x3))) (wrap64 ((wrap64 ((mx x2 (wrap64 (-x2))) * (mx x2 (wrap64 (-x2))))) + (wrap64 ((mx x3 (wrap64 (-x3))) * (mx x3 (wrap64 (-x3))))))) 1 0)
def entrepotref06_Dist.l0 : Nat → Int → Int → Int → Int → Int → Int → Int → Option (Int × Int)
 | 0, _, _, _, _, _, _, _ => none
 | k + 1, x0, x1, x10, x11, x12, x13, x14 => if x14 < x1 then (entrepotref06_Dist.l0 k x0 x1 x10 x11 x12 (wrap64 (10 * x13)) (wrap64 (x14 + 1))) else (if x0 = 1 then ((entrepotref05_Near.f k x12 x13).bind fun t412 => (some (t412, 0))) else (if x0 = 2 then ((entrepotref05_Ceil.f k x12 1 x13).bind fun t413 => (some (t413, 0))) else (if x0 = 3 then ((entrepotref06_nearest.f (wrap64 (x10 + x11)) x13).bind fun t414 => (some (t414, 0))) else (if x0 = 4 then ((entrepotref06_nearest.f x10 x13).bind fun t415 => ((entrepotref06_nearest.f x11 x13).bind fun t416 => (some (mx t415 t416, 0)))) else (if x0 = 5 then ((entrepotref05_Ceil.f k x12 10 x13).bind fun t417 => (some (t417, 0))) else ((entrepotref05_Down.f k x12 10 x13).bind fun t418 => (some (t418, 0))))))))
end
def entrepotref06_Dist.f (k : Nat) (a0 : Int) (a1 : Int) (a2 : Int) (a3 : Int) : Option (Int × Int) := if a0 < 1 then (entrepotref06_Dist.j0 k a0 a1 a2 a3 true) else (if a0 > 6 then (entrepotref06_Dist.j0 k a0 a1 a2 a3 true) else (if a1 < 0 then (entrepotref06_Dist.j0 k a0 a1 a2 a3 true) else (entrepotref06_Dist.j0 k a0 a1 a2 a3 (decide (a1 > 6)))))
theorem entrepotref06_Dist.mono_l : ∀ k, (∀ y0 y1 y2 y3 y4, LeO (entrepotref06_Dist.j0 k y0 y1 y2 y3 y4) (entrepotref06_Dist.j0 (k + 1) y0 y1 y2 y3 y4)) ∧ (∀ y0 y1 y2 y3 y4, LeO (entrepotref06_Dist.j1 k y0 y1 y2 y3 y4) (entrepotref06_Dist.j1 (k + 1) y0 y1 y2 y3 y4)) ∧ (∀ y0 y1 y2 y3 y4 y5 y6, LeO (entrepotref06_Dist.l0 k y0 y1 y2 y3 y4 y5 y6) (entrepotref06_Dist.l0 (k + 1) y0 y1 y2 y3 y4 y5 y6))
 | 0 => ⟨fun _ _ _ _ _ r h => by simp [entrepotref06_Dist.j0] at h, fun _ _ _ _ _ r h => by simp [entrepotref06_Dist.j1] at h, fun _ _ _ _ _ _ _ r h => by simp [entrepotref06_Dist.l0] at h⟩
 | k + 1 => by
  obtain ⟨ih0, ih1, ih2⟩ := entrepotref06_Dist.mono_l k
  refine ⟨?_, ?_, ?_⟩ <;> intros
  all_goals first | unfold entrepotref06_Dist.j0 | unfold entrepotref06_Dist.j1 | unfold entrepotref06_Dist.l0
  all_goals repeat' first
  | (with_reducible exact ih0 _ _ _ _ _)
  | (with_reducible exact ih1 _ _ _ _ _)
  | (with_reducible exact ih2 _ _ _ _ _ _ _)
  | (with_reducible exact entrepotref05_Ceil.mono _ _ _ _)
  | (with_reducible exact entrepotref05_Down.mono _ _ _ _)
  | (with_reducible exact entrepotref05_Near.mono _ _ _)
  | (with_reducible exact LeO.refl _)
  | (with_reducible exact LeO.none _)
  | (with_reducible refine LeO.ite ?_ ?_)
  | (with_reducible refine LeO.bind ?_ (fun _ => ?_))
  | exact ih0 _ _ _ _ _
  | exact ih1 _ _ _ _ _
  | exact ih2 _ _ _ _ _ _ _
  | exact entrepotref05_Ceil.mono _ _ _ _
  | exact entrepotref05_Down.mono _ _ _ _
  | exact entrepotref05_Near.mono _ _ _
  | exact LeO.none _
  | refine LeO.ite ?_ ?_
  | refine LeO.bind ?_ (fun _ => ?_)
theorem entrepotref06_Dist.mono : ∀ a0 a1 a2 a3 k, LeO (entrepotref06_Dist.f k a0 a1 a2 a3) (entrepotref06_Dist.f (k + 1) a0 a1 a2 a3) := by
 intro a0 a1 a2 a3 k
 obtain ⟨ih0, ih1, ih2⟩ := entrepotref06_Dist.mono_l k
 unfold entrepotref06_Dist.f
 repeat' first
   | (with_reducible exact ih0 _ _ _ _ _)
   | (with_reducible exact ih1 _ _ _ _ _)
   | (with_reducible exact ih2 _ _ _ _ _ _ _)
   | (with_reducible exact entrepotref05_Ceil.mono _ _ _ _)
   | (with_reducible exact entrepotref05_Down.mono _ _ _ _)
   | (with_reducible exact entrepotref05_Near.mono _ _ _)
   | (with_reducible exact LeO.refl _)
   | (with_reducible exact LeO.none _)
   | (with_reducible refine LeO.ite ?_ ?_)
   | (with_reducible refine LeO.bind ?_ (fun _ => ?_))
   | exact ih0 _ _ _ _ _
   | exact ih1 _ _ _ _ _
   | exact ih2 _ _ _ _ _ _ _
   | exact entrepotref05_Ceil.mono _ _ _ _
   | exact entrepotref05_Down.mono _ _ _ _
   | exact entrepotref05_Near.mono _ _ _
   | exact LeO.none _
   | refine LeO.ite ?_ ?_
   | refine LeO.bind ?_ (fun _ => ?_)
set_option maxHeartbeats 8000000 in
set_option maxRecDepth 100000 in
theorem entrepotref06_Dist.calls (k : Nat) (a0 : Int) (a1 : Int) (a2 : Int) (a3 : Int) (r1 : Int) (r2 : Int) (w : World) (h : entrepotref06_Dist.f k a0 a1 a2 a3 = some (r1, r2)) :
  Calls Try.prog 75 #[.int .i64 a0, .int .i64 a1, .int .i64 a2, .int .i64 a3] w fun e w' => e = .returned (.tuple #[.int .i64 r1, .int .i64 r2]) ∧ Below w.heap.size w w' := by
 have HB := Aside0.mk (Below.refl w.heap.size w)
 have H : (if a0 < 1 then (entrepotref06_Dist.j0 k a0 a1 a2 a3 true) else (if a0 > 6 then (entrepotref06_Dist.j0 k a0 a1 a2 a3 true) else (if a1 < 0 then (entrepotref06_Dist.j0 k a0 a1 a2 a3 true) else (entrepotref06_Dist.j0 k a0 a1 a2 a3 (decide (a1 > 6)))))) = some (r1, r2) := h
 clear h
 have HC5 := Aside0.mk H
 clear H
 go_enter Try.func75, Try.ntmps75
 go_upto_region 1 with (fail)
 go_cut [28] (fun v28 wc => ∃ (kq : Nat) (x28_4 : Bool), v28 = .bool x28_4 ∧ Aside0 (entrepotref06_Dist.j0 kq a0 a1 a2 a3 x28_4 = some (r1, r2)) ∧ Aside0 (kq ≤ k) ∧ Aside0 (Below w.heap.size w wc))
 case first =>
  have H := HC5.out
  clear HC5
  by_cases c6 : a0 < 1
  ·rw [if_pos c6] at H
   have c6b0 : decide (a0 < 1) = true := decide_eq_true c6
   clear c6
   (first | rw [c6b0] | (simp only [i64_w, i32_w]; rw [c6b0]) | skip)
   have H' := Aside0.mk H
   clear H
   go_wp2
   go_meet
   case rel => exact ⟨_, (true), (by first | rfl | (simp; done) | (simp [*]; done)), H', ⟨by first | omega | exact Nat.le_refl _⟩, ⟨by repeat (first | (with_reducible first | exact HB.out | apply below_alloc | apply pw_below_drewN | apply below_drew1) | exact HB.out)⟩⟩
  ·rw [if_neg c6] at H
   have c6b0 : decide (a0 < 1) = false := decide_eq_false c6
   clear c6
   (first | rw [c6b0] | (simp only [i64_w, i32_w]; rw [c6b0]) | skip)
   by_cases c7 : a0 > 6
   ·rw [if_pos c7] at H
    have c7b0 : decide (6 < a0) = true := decide_eq_true c7
    clear c7
    have H' := Aside0.mk H
    clear H
    go_wp2
    go_meet
    case rel => exact ⟨_, (true), (by first | rfl | (simp; done) | (simp [*]; done)), H', ⟨by first | omega | exact Nat.le_refl _⟩, ⟨by repeat (first | (with_reducible first | exact HB.out | apply below_alloc | apply pw_below_drewN | apply below_drew1) | exact HB.out)⟩⟩
   ·rw [if_neg c7] at H
    have c7b0 : decide (6 < a0) = false := decide_eq_false c7
    clear c7
    by_cases c8 : a1 < 0
    ·rw [if_pos c8] at H
     have c8b0 : decide (a1 < 0) = true := decide_eq_true c8
     clear c8
     have H' := Aside0.mk H
     clear H
     go_wp2
     go_meet
     case rel => exact ⟨_, (true), (by first | rfl | (simp; done) | (simp [*]; done)), H', ⟨by first | omega | exact Nat.le_refl _⟩, ⟨by repeat (first | (with_reducible first | exact HB.out | apply below_alloc | apply pw_below_drewN | apply below_drew1) | exact HB.out)⟩⟩
    ·rw [if_neg c8] at H
     have c8b0 : decide (a1 < 0) = false := decide_eq_false c8
     clear c8
     have H' := Aside0.mk H
     clear H
     go_wp2
     go_meet
     case rel => exact ⟨_, (decide (a1 > 6)), (by first | rfl | (simp; done) | (simp [*]; done)), H', ⟨by first | omega | exact Nat.le_refl _⟩, ⟨by repeat (first | (with_reducible first | exact HB.out | apply below_alloc | apply pw_below_drewN | apply below_drew1) | exact HB.out)⟩⟩
 case rest =>
  clear HC5
  obtain ⟨kq, x28_4, rfl, HA, HJ4, HB⟩ := hcut
  cases kq with
  | zero => exact absurd HA.out (by simp [entrepotref06_Dist.j0])
  | succ kj4 =>
   have H := HA.out
   clear HA
   simp only [entrepotref06_Dist.j0] at H
   by_cases c9 : x28_4 = true
   ·subst c9
    have H1 : (some (0, 1)) = some (r1, r2) := by rw [if_pos rfl] at H; exact H
    clear H
    have H := H1
    clear H1
    simp only [Option.some.injEq, Prod.mk.injEq] at H
    obtain ⟨rfl, rfl⟩ := H
    go_wp2
    go_ret2
    exact ⟨by first | rfl | (simp [errW_none, errW_some] <;> rfl) | (simp [*, errW_none, errW_some] <;> rfl), by repeat (first | (with_reducible first | exact HB.out | apply below_alloc | apply pw_below_drewN | apply below_drew1) | exact HB.out)⟩
   ·replace c9 := Bool.eq_false_iff.mpr c9
    subst c9
    have H1 : ((entrepotref06_far.f a2).bind fun t410 => (if t410 = true then (entrepotref06_Dist.j1 kj4 a0 a1 a2 a3 true) else ((entrepotref06_far.f a3).bind fun t411 => (entrepotref06_Dist.j1 kj4 a0 a1 a2 a3 t411)))) = some (r1, r2) := by rw [if_neg (show ¬ (false = true) by decide)] at H; exact H
    clear H
    have H := H1
    clear H1
    have HC10 := Aside0.mk H
    clear H
    go_upto_region 3 with (fail)
    go_cut [34] (fun v34 wc => ∃ (kq : Nat) (x34_9 : Bool), v34 = .bool x34_9 ∧ Aside0 (entrepotref06_Dist.j1 kq a0 a1 a2 a3 x34_9 = some (r1, r2)) ∧ Aside0 (kq ≤ kj4) ∧ Aside0 (Below w.heap.size w wc))
    case first =>
     have H := HC10.out
     clear HC10
     replace H := Option.bind_eq_some_iff.mp H
     obtain ⟨t410, A110, H⟩ := H
     replace H : (if t410 = true then (entrepotref06_Dist.j1 kj4 a0 a1 a2 a3 true) else ((entrepotref06_far.f a3).bind fun t411 => (entrepotref06_Dist.j1 kj4 a0 a1 a2 a3 t411))) = some (r1, r2) := H
     have A11 := Aside0.mk A110
     clear A110
     by_cases c12 : t410 = true
     ·subst c12
      have H1 : (entrepotref06_Dist.j1 kj4 a0 a1 a2 a3 true) = some (r1, r2) := by rw [if_pos rfl] at H; exact H
      clear H
      have H := H1
      clear H1
      have H' := Aside0.mk H
      clear H
      go_wp2_with (first | ((with_reducible refine gate_callee (f := 93) rfl ?_); refine goesL_ (some 30) rfl rfl Try.func93 (by kernel_rfl) rfl #[.int .i64 a2] rfl (by (try simp only [List.map_toArray, List.map_cons, List.map_nil]); first | done | rfl | (simp only [List.length_drop, List.length_take]; rfl)) ?_; (with_reducible refine (entrepotref06_far.calls a2 true _ A11.out).mono ?_); rintro e w' ⟨rfl, ⟨nd, rfl⟩⟩; refine ⟨_, rfl, ?_⟩))
      go_meet
      case rel => exact ⟨_, (true), (by first | rfl | (simp; done) | (simp [*]; done)), H', ⟨by have := HJ4.out; first | omega | exact Nat.le_refl _⟩, ⟨by repeat (first | (with_reducible first | exact HB.out | apply below_alloc | apply pw_below_drewN | apply below_drew1) | exact HB.out)⟩⟩
     ·replace c12 := Bool.eq_false_iff.mpr c12
      subst c12
      have H1 : ((entrepotref06_far.f a3).bind fun t411 => (entrepotref06_Dist.j1 kj4 a0 a1 a2 a3 t411)) = some (r1, r2) := by rw [if_neg (show ¬ (false = true) by decide)] at H; exact H
      clear H
      have H := H1
      clear H1
      replace H := Option.bind_eq_some_iff.mp H
      obtain ⟨t411, A130, H⟩ := H
      replace H : (entrepotref06_Dist.j1 kj4 a0 a1 a2 a3 t411) = some (r1, r2) := H
      have A13 := Aside0.mk A130
      clear A130
      have H' := Aside0.mk H
      clear H
      go_wp2_with (first | ((with_reducible refine gate_callee (f := 93) rfl ?_); refine goesL_ (some 30) rfl rfl Try.func93 (by kernel_rfl) rfl #[.int .i64 a2] rfl (by (try simp only [List.map_toArray, List.map_cons, List.map_nil]); first | done | rfl | (simp only [List.length_drop, List.length_take]; rfl)) ?_; (with_reducible refine (entrepotref06_far.calls a2 false _ A11.out).mono ?_); rintro e w' ⟨rfl, ⟨nd, rfl⟩⟩; refine ⟨_, rfl, ?_⟩) | (go_at_call 93; (with_reducible refine (entrepotref06_far.calls a3 t411 _ A13.out).mono ?_); rintro e w' ⟨rfl, ⟨nd, rfl⟩⟩))
      go_meet
      case rel => exact ⟨_, (t411), (by first | rfl | (simp; done) | (simp [*]; done)), H', ⟨by have := HJ4.out; first | omega | exact Nat.le_refl _⟩, ⟨by repeat (first | (with_reducible first | exact HB.out | apply below_alloc | apply pw_below_drewN | apply below_drew1) | exact HB.out)⟩⟩
    case rest =>
     clear HC10
     (try clear c9)
     obtain ⟨kq, x34_9, rfl, HA, HJ9, HB⟩ := hcut
     cases kq with
     | zero => exact absurd HA.out (by simp [entrepotref06_Dist.j1])
     | succ kj9 =>
      have H := HA.out
      clear HA
      simp only [entrepotref06_Dist.j1] at H
      by_cases c14 : x34_9 = true
      ·subst c14
       have H1 : (some (0, 2)) = some (r1, r2) := by rw [if_pos rfl] at H; exact H
       clear H
       have H := H1
       clear H1
       simp only [Option.some.injEq, Prod.mk.injEq] at H
       obtain ⟨rfl, rfl⟩ := H
       go_wp2
       go_ret2
       exact ⟨by first | rfl | (simp [errW_none, errW_some] <;> rfl) | (simp [*, errW_none, errW_some] <;> rfl), by repeat (first | (with_reducible first | exact HB.out | apply below_alloc | apply pw_below_drewN | apply below_drew1) | exact HB.out)⟩
      ·replace c14 := Bool.eq_false_iff.mpr c14
       subst c14
       have H1 : (entrepotref06_Dist.l0 kj9 a0 a1 (mx a2 (wrap64 (-a2))) (mx a3 (wrap64 (-a3))) (wrap64 ((wrap64 ((mx a2 (wrap64 (-a2))) * (mx a2 (wrap64 (-a2))))) + (wrap64 ((mx a3 (wrap64 (-a3))) * (mx a3 (wrap64 (-a3))))))) 1 0) = some (r1, r2) := by rw [if_neg (show ¬ (false = true) by decide)] at H; exact H
       clear H
       have H := H1
       clear H1
       obtain ⟨ji15, hji15⟩ : ∃ j_ : Int, (mx a2 (wrap64 (-a2))) = j_ := ⟨_, rfl⟩
       replace H : (entrepotref06_Dist.l0 kj9 a0 a1 ji15 (mx a3 (wrap64 (-a3))) (wrap64 ((wrap64 ((ji15) * (ji15))) + (wrap64 ((mx a3 (wrap64 (-a3))) * (mx a3 (wrap64 (-a3))))))) 1 0) = some (r1, r2) := by first | (rw [hji15] at H; exact H) | (simp only [hji15] at H ⊢; exact H)
       have hji15_ : (if a2 < (wrap64 (-a2)) then (wrap64 (-a2)) else a2) = ji15 := hji15
       obtain ⟨ji16, hji16⟩ : ∃ j_ : Int, (mx a3 (wrap64 (-a3))) = j_ := ⟨_, rfl⟩
       replace H : (entrepotref06_Dist.l0 kj9 a0 a1 ji15 ji16 (wrap64 ((wrap64 ((ji15) * (ji15))) + (wrap64 ((ji16) * (ji16))))) 1 0) = some (r1, r2) := by first | (rw [hji16] at H; exact H) | (simp only [hji16] at H ⊢; exact H)
       have hji16_ : (if a3 < (wrap64 (-a3)) then (wrap64 (-a3)) else a3) = ji16 := hji16
       have H' := Aside0.mk H
       clear H
       go_wp2
       go_loopg [13, 14] kj9 (fun kq v13 v14 w' => ∃ (x13_3 : Int) (x14_3 : Int), v13 = .int .i64 x13_3 ∧ v14 = .int .i64 x14_3 ∧ Aside0 (entrepotref06_Dist.l0 kq a0 a1 ji15 ji16 (wrap64 ((wrap64 ((ji15) * (ji15))) + (wrap64 ((ji16) * (ji16))))) x13_3 x14_3 = some (r1, r2)) ∧ Aside0 (kq ≤ kj9) ∧ Aside0 (Below w.heap.size w w'))
       case atStart => exact ⟨(1), (0), (by first | rfl | (simp; done) | (simp [*]; done)), (by first | rfl | (simp; done) | (simp [*]; done)), H', ⟨Nat.le_refl _⟩, ⟨by repeat (first | (with_reducible first | exact HB.out | apply below_alloc | apply pw_below_drewN | apply below_drew1) | exact HB.out)⟩⟩
       case round =>
        clear H'
        (try clear c14)
        obtain ⟨x13_3, x14_3, rfl, rfl, HA, HK3, HB⟩ := hrel
        cases gk with
        | zero => exact absurd HA.out (by simp [entrepotref06_Dist.l0])
        | succ k3 =>
         have H := HA.out
         clear HA
         simp only [entrepotref06_Dist.l0] at H
         by_cases c17 : x14_3 < a1
         ·rw [if_pos c17] at H
          have c17b0 : decide (x14_3 < a1) = true := decide_eq_true c17
          clear c17
          have H' := Aside0.mk H
          clear H
          go_wp2
          go_roundg k3
          case measure => have := HJ4.out; have := HJ9.out; have := HK3.out; omega
          case rel => exact ⟨(wrap64 (10 * x13_3)), (wrap64 (x14_3 + 1)), (by first | rfl | (simp; done) | (simp [*]; done)), (by first | rfl | (simp; done) | (simp [*]; done)), H', ⟨by have := HJ4.out; have := HJ9.out; have := HK3.out; omega⟩, ⟨by repeat (first | (with_reducible first | exact HB.out | apply below_alloc | apply pw_below_drewN | apply below_drew1) | exact HB.out)⟩⟩
         ·rw [if_neg c17] at H
          have c17b0 : decide (x14_3 < a1) = false := decide_eq_false c17
          clear c17
          by_cases c18 : a0 = 1
          ·rw [if_pos c18] at H
           have c18b0 : (a0 == 1) = true := beq_iff_eq.mpr c18
           have c18b1 : (a0 != 1) = false := bne_eq_false_iff_eq.mpr c18
           clear c18
           replace H := Option.bind_eq_some_iff.mp H
           obtain ⟨t412, A190, H⟩ := H
           replace H : (some (t412, 0)) = some (r1, r2) := H
           have A19 := Aside0.mk A190
           clear A190
           simp only [Option.some.injEq, Prod.mk.injEq] at H
           obtain ⟨rfl, rfl⟩ := H
           go_wp2_with (first | ((with_reducible refine gate_callee (f := 94) rfl ?_); refine goesL_ (some 62) rfl rfl Try.func94 (by kernel_rfl) rfl #[.int .i64 (wrap64 ((wrap64 ((ji15) * (ji15))) + (wrap64 ((ji16) * (ji16))))), .int .i64 x13_3] rfl (by (try simp only [List.map_toArray, List.map_cons, List.map_nil]); first | done | (simp only [hji15, hji16]; rfl) | rfl | (simp only [List.length_drop, List.length_take]; rfl)) ?_; (with_reducible refine (entrepotref05_Near.calls k3 (wrap64 ((wrap64 ((ji15) * (ji15))) + (wrap64 ((ji16) * (ji16))))) x13_3 t412 _ A19.out).mono ?_); rintro e w' ⟨rfl, ⟨nd, rfl⟩⟩; refine ⟨_, rfl, ?_⟩))
           go_ret2
           exact ⟨by first | rfl | (simp [errW_none, errW_some] <;> rfl) | (simp only [← hji15, ← hji16]; first | rfl | (simp [errW_none, errW_some] <;> rfl)) | (simp [*, errW_none, errW_some] <;> rfl), by repeat (first | (with_reducible first | exact HB.out | apply below_alloc | apply pw_below_drewN | apply below_drew1) | exact HB.out)⟩
          ·rw [if_neg c18] at H
           have c18b0 : (a0 == 1) = false := beq_eq_false_iff_ne.mpr c18
           have c18b1 : (a0 != 1) = true := bne_iff_ne.mpr c18
           by_cases c20 : a0 = 2
           ·rw [if_pos c20] at H
            have c20b0 : (a0 == 2) = true := beq_iff_eq.mpr c20
            have c20b1 : (a0 != 2) = false := bne_eq_false_iff_eq.mpr c20
            clear c20
            replace H := Option.bind_eq_some_iff.mp H
            obtain ⟨t413, A210, H⟩ := H
            replace H : (some (t413, 0)) = some (r1, r2) := H
            have A21 := Aside0.mk A210
            clear A210
            simp only [Option.some.injEq, Prod.mk.injEq] at H
            obtain ⟨rfl, rfl⟩ := H
            go_wp2_with (first | ((with_reducible refine gate_callee (f := 95) rfl ?_); refine goesL_ (some 67) rfl rfl Try.func95 (by kernel_rfl) rfl #[.int .i64 (wrap64 ((wrap64 ((ji15) * (ji15))) + (wrap64 ((ji16) * (ji16))))), .int .i64 1, .int .i64 x13_3] rfl (by (try simp only [List.map_toArray, List.map_cons, List.map_nil]); first | done | (simp only [hji15, hji16]; rfl) | rfl | (simp only [List.length_drop, List.length_take]; rfl)) ?_; (with_reducible refine (entrepotref05_Ceil.calls k3 (wrap64 ((wrap64 ((ji15) * (ji15))) + (wrap64 ((ji16) * (ji16))))) 1 x13_3 t413 _ A21.out).mono ?_); rintro e w' ⟨rfl, ⟨nd, rfl⟩⟩; refine ⟨_, rfl, ?_⟩))
            go_ret2
            exact ⟨by first | rfl | (simp [errW_none, errW_some] <;> rfl) | (simp only [← hji15, ← hji16]; first | rfl | (simp [errW_none, errW_some] <;> rfl)) | (simp [*, errW_none, errW_some] <;> rfl), by repeat (first | (with_reducible first | exact HB.out | apply below_alloc | apply pw_below_drewN | apply below_drew1) | exact HB.out)⟩
           ·rw [if_neg c20] at H
            have c20b0 : (a0 == 2) = false := beq_eq_false_iff_ne.mpr c20
            have c20b1 : (a0 != 2) = true := bne_iff_ne.mpr c20
            by_cases c22 : a0 = 3
            ·rw [if_pos c22] at H
             have c22b0 : (a0 == 3) = true := beq_iff_eq.mpr c22
             have c22b1 : (a0 != 3) = false := bne_eq_false_iff_eq.mpr c22
             clear c22
             replace H := Option.bind_eq_some_iff.mp H
             obtain ⟨t414, A230, H⟩ := H
             replace H : (some (t414, 0)) = some (r1, r2) := H
             have A23 := Aside0.mk A230
             clear A230
             simp only [Option.some.injEq, Prod.mk.injEq] at H
             obtain ⟨rfl, rfl⟩ := H
             go_wp2_with (first | ((with_reducible refine gate_callee (f := 96) rfl ?_); refine goesL_ (some 74) rfl rfl Try.func96 (by kernel_rfl) rfl #[.int .i64 (wrap64 (ji15 + ji16)), .int .i64 x13_3] rfl (by (try simp only [List.map_toArray, List.map_cons, List.map_nil]); first | done | (simp only [hji15, hji16]; rfl) | rfl | (simp only [List.length_drop, List.length_take]; rfl)) ?_; (with_reducible refine (entrepotref06_nearest.calls (wrap64 (ji15 + ji16)) x13_3 t414 _ A23.out).mono ?_); rintro e w' ⟨rfl, ⟨nd, rfl⟩⟩; refine ⟨_, rfl, ?_⟩))
             go_ret2
             exact ⟨by first | rfl | (simp [errW_none, errW_some] <;> rfl) | (simp only [← hji15, ← hji16]; first | rfl | (simp [errW_none, errW_some] <;> rfl)) | (simp [*, errW_none, errW_some] <;> rfl), by repeat (first | (with_reducible first | exact HB.out | apply below_alloc | apply pw_below_drewN | apply below_drew1) | exact HB.out)⟩
            ·rw [if_neg c22] at H
             have c22b0 : (a0 == 3) = false := beq_eq_false_iff_ne.mpr c22
             have c22b1 : (a0 != 3) = true := bne_iff_ne.mpr c22
             by_cases c24 : a0 = 4
             ·rw [if_pos c24] at H
              have c24b0 : (a0 == 4) = true := beq_iff_eq.mpr c24
              have c24b1 : (a0 != 4) = false := bne_eq_false_iff_eq.mpr c24
              clear c24
              replace H := Option.bind_eq_some_iff.mp H
              obtain ⟨t415, A250, H⟩ := H
              replace H : ((entrepotref06_nearest.f ji16 x13_3).bind fun t416 => (some (mx t415 t416, 0))) = some (r1, r2) := H
              have A25 := Aside0.mk A250
              clear A250
              replace H := Option.bind_eq_some_iff.mp H
              obtain ⟨t416, A260, H⟩ := H
              replace H : (some (mx t415 t416, 0)) = some (r1, r2) := H
              have A26 := Aside0.mk A260
              clear A260
              obtain ⟨ji27, hji27⟩ : ∃ j_ : Int, (mx t415 t416) = j_ := ⟨_, rfl⟩
              replace H : (some (ji27, 0)) = some (r1, r2) := by first | (rw [hji27] at H; exact H) | (simp only [hji27] at H ⊢; exact H)
              (try rw [hji27] at A25)
              (try rw [hji27] at A26)
              have hji27_ : (if t415 < t416 then t416 else t415) = ji27 := hji27
              simp only [Option.some.injEq, Prod.mk.injEq] at H
              obtain ⟨rfl, rfl⟩ := H
              go_wp2_with (first | ((with_reducible refine gate_callee (f := 96) rfl ?_); refine goesL_ (some 79) rfl rfl Try.func96 (by kernel_rfl) rfl #[.int .i64 ji15, .int .i64 x13_3] rfl (by (try simp only [List.map_toArray, List.map_cons, List.map_nil]); first | done | (simp only [hji15]; rfl) | rfl | (simp only [List.length_drop, List.length_take]; rfl)) ?_; (with_reducible refine (entrepotref06_nearest.calls ji15 x13_3 t415 _ A25.out).mono ?_); rintro e w' ⟨rfl, ⟨nd, rfl⟩⟩; refine ⟨_, rfl, ?_⟩) | ((with_reducible refine gate_callee (f := 96) rfl ?_); refine goesL_ (some 82) rfl rfl Try.func96 (by kernel_rfl) rfl #[.int .i64 ji16, .int .i64 x13_3] rfl (by (try simp only [List.map_toArray, List.map_cons, List.map_nil]); first | done | (simp only [hji16]; rfl) | rfl | (simp only [List.length_drop, List.length_take]; rfl)) ?_; (with_reducible refine (entrepotref06_nearest.calls ji16 x13_3 t416 _ A26.out).mono ?_); rintro e w' ⟨rfl, ⟨nd, rfl⟩⟩; refine ⟨_, rfl, ?_⟩))
              go_ret2
              exact ⟨by first | rfl | (simp [errW_none, errW_some] <;> rfl) | (simp only [← hji15, ← hji16, ← hji27]; first | rfl | (simp [errW_none, errW_some] <;> rfl)) | (simp [*, errW_none, errW_some] <;> rfl), by repeat (first | (with_reducible first | exact HB.out | apply below_alloc | apply pw_below_drewN | apply below_drew1) | exact HB.out)⟩
             ·rw [if_neg c24] at H
              have c24b0 : (a0 == 4) = false := beq_eq_false_iff_ne.mpr c24
              have c24b1 : (a0 != 4) = true := bne_iff_ne.mpr c24
              by_cases c28 : a0 = 5
              ·rw [if_pos c28] at H
               have c28b0 : (a0 == 5) = true := beq_iff_eq.mpr c28
               have c28b1 : (a0 != 5) = false := bne_eq_false_iff_eq.mpr c28
               clear c28
               replace H := Option.bind_eq_some_iff.mp H
               obtain ⟨t417, A290, H⟩ := H
               replace H : (some (t417, 0)) = some (r1, r2) := H
               have A29 := Aside0.mk A290
               clear A290
               simp only [Option.some.injEq, Prod.mk.injEq] at H
               obtain ⟨rfl, rfl⟩ := H
               go_wp2_with (first | ((with_reducible refine gate_callee (f := 95) rfl ?_); refine goesL_ (some 88) rfl rfl Try.func95 (by kernel_rfl) rfl #[.int .i64 (wrap64 ((wrap64 ((ji15) * (ji15))) + (wrap64 ((ji16) * (ji16))))), .int .i64 10, .int .i64 x13_3] rfl (by (try simp only [List.map_toArray, List.map_cons, List.map_nil]); first | done | (simp only [hji15, hji16]; rfl) | rfl | (simp only [List.length_drop, List.length_take]; rfl)) ?_; (with_reducible refine (entrepotref05_Ceil.calls k3 (wrap64 ((wrap64 ((ji15) * (ji15))) + (wrap64 ((ji16) * (ji16))))) 10 x13_3 t417 _ A29.out).mono ?_); rintro e w' ⟨rfl, ⟨nd, rfl⟩⟩; refine ⟨_, rfl, ?_⟩))
               go_ret2
               exact ⟨by first | rfl | (simp [errW_none, errW_some] <;> rfl) | (simp only [← hji15, ← hji16]; first | rfl | (simp [errW_none, errW_some] <;> rfl)) | (simp [*, errW_none, errW_some] <;> rfl), by repeat (first | (with_reducible first | exact HB.out | apply below_alloc | apply pw_below_drewN | apply below_drew1) | exact HB.out)⟩
              ·rw [if_neg c28] at H
               have c28b0 : (a0 == 5) = false := beq_eq_false_iff_ne.mpr c28
               have c28b1 : (a0 != 5) = true := bne_iff_ne.mpr c28
               replace H := Option.bind_eq_some_iff.mp H
               obtain ⟨t418, A300, H⟩ := H
               replace H : (some (t418, 0)) = some (r1, r2) := H
               have A30 := Aside0.mk A300
               clear A300
               simp only [Option.some.injEq, Prod.mk.injEq] at H
               obtain ⟨rfl, rfl⟩ := H
               go_wp2_with (first | ((with_reducible refine gate_callee (f := 97) rfl ?_); refine goesL_ (some 91) rfl rfl Try.func97 (by kernel_rfl) rfl #[.int .i64 (wrap64 ((wrap64 ((ji15) * (ji15))) + (wrap64 ((ji16) * (ji16))))), .int .i64 10, .int .i64 x13_3] rfl (by (try simp only [List.map_toArray, List.map_cons, List.map_nil]); first | done | (simp only [hji15, hji16]; rfl) | rfl | (simp only [List.length_drop, List.length_take]; rfl)) ?_; (with_reducible refine (entrepotref05_Down.calls k3 (wrap64 ((wrap64 ((ji15) * (ji15))) + (wrap64 ((ji16) * (ji16))))) 10 x13_3 t418 _ A30.out).mono ?_); rintro e w' ⟨rfl, ⟨nd, rfl⟩⟩; refine ⟨_, rfl, ?_⟩))
               go_ret2
               exact ⟨by first | rfl | (simp [errW_none, errW_some] <;> rfl) | (simp only [← hji15, ← hji16]; first | rfl | (simp [errW_none, errW_some] <;> rfl)) | (simp [*, errW_none, errW_some] <;> rfl), by repeat (first | (with_reducible first | exact HB.out | apply below_alloc | apply pw_below_drewN | apply below_drew1) | exact HB.out)⟩

end Go.Proofs.Ytlncbckpcmojpaa.P
namespace Go.Proofs.Ytlncbckpcmojpaa.RefDist
open Go.RowKit Go.Proofs.Ytlncbckpcmojpaa.P Go.Proofs.YtlncbckpcmojpaaW.PrintWords Go.Proofs.YtlncbckpcmojpaaW.PrintLast
open DistWalk
theorem bind_s {α β : Type} (a : α) (f : α → Option β) : (some a).bind f = f a := rfl
def badK (m s : Int) : Prop := m ≤ 0 ∨ 6 < m ∨ s < 0 ∨ 6 < s
instance (m s : Int) : Decidable (badK m s) := by unfold badK; infer_instance
theorem dist_bad {m s : Int} (x y : Int) (h : badK m s) : metric_Dist.f m s x y = some (0, 1) := by
 unfold metric_Dist.f; exact if_pos h
theorem dist_far {m s x y : Int} (h : ¬ badK m s) (hf : far x ∨ far y) : metric_Dist.f m s x y = some (0, 2) := by
 unfold metric_Dist.f; exact (if_neg h).trans (if_pos hf)
theorem dist_ok {m s x y : Int} (h : ¬ badK m s) (hx : ¬ far x) (hy : ¬ far y) : metric_Dist.f m s x y = some ((way m (ten s.toNat) x y : Int), 0) := by
 unfold metric_Dist.f; exact (if_neg h).trans (if_neg (by rintro (h | h); exact hx h; exact hy h))
theorem far_neg {x : Int} (h : ¬ far x) : ¬ far (-x) ∧ wrap64 (-x) = -x := by
 unfold far at *; constructor
 ·omega
 ·unfold wrap64; omega
theorem le_nst {a t q : Nat} (ht : 1 ≤ t) : q ≤ nst a t ↔ 2 * (q * t) ≤ 2 * a + t := by
 unfold nst; rw [Nat.le_div_iff_mul_le (by omega)]; generalize q * t = z; omega
/-- Of no way, the length is nought. -/
theorem great {wy n m d : Int} {G : Nat} (hH : ∀ q : Nat, 1 ≤ q → q < 4294967296 → entrepotref05_holds.f wy (q : Int) n m d = some (decide (q ≤ G))) :
  ∀ (j k q : Nat), j + 3 ≤ k → q ≤ G → G < q + 2 ^ (j + 1) → q + 2 ^ (j + 1) ≤ 4294967296 → entrepotref05_greatest.l0 k wy n m d (q : Int) ((2 ^ j : Nat) : Int) = some (G : Int) := by
 intro j
 induction j with
 | zero =>
  intro k q hk h1 h2 h3
  obtain ⟨k, rfl⟩ : ∃ k', k = k' + 1 + 1 := ⟨k - 2, by omega⟩
  simp only [entrepotref05_greatest.l0]
  rw [if_pos (by omega), show (q : Int) + ((2 ^ 0 : Nat) : Int) = ((q + 1 : Nat) : Int) by omega, wrap64_id (by omega) (by omega), hH (q + 1) (by omega) (by omega), bind_s,
   show wrap64 (Int.tdiv ((2 ^ 0 : Nat) : Int) 2) = 0 from wrap64_id (a := 0) (by omega) (by omega)]
  by_cases hg : q + 1 ≤ G
  ·rw [if_pos (decide_eq_true hg), if_neg (by omega)]; congr 2; omega
  ·rw [if_neg (by simpa using hg), if_neg (by omega)]; congr 2; omega
 | succ j ih =>
  intro k q hk h1 h2 h3
  obtain ⟨k, rfl⟩ : ∃ k', k = k' + 1 := ⟨k - 1, by omega⟩
  have e : 2 ^ (j + 1 + 1) = 2 ^ (j + 1) * 2 := Nat.pow_succ ..
  have e2 : 2 ^ (j + 1) = 2 ^ j * 2 := Nat.pow_succ ..
  have e3 : 1 ≤ 2 ^ j := Nat.pow_pos (by omega)
  have e4 : wrap64 (Int.tdiv ((2 ^ (j + 1) : Nat) : Int) 2) = ((2 ^ j : Nat) : Int) := by
   rw [Int.tdiv_eq_ediv_of_nonneg (by omega), wrap64_id (by omega) (by omega)]; omega
  simp only [entrepotref05_greatest.l0]
  rw [if_pos (by omega), show (q : Int) + ((2 ^ (j + 1) : Nat) : Int) = ((q + 2 ^ (j + 1) : Nat) : Int) by omega, wrap64_id (by omega) (by omega), hH (q + 2 ^ (j + 1)) (by omega) (by omega), bind_s, e4]
  by_cases hg : q + 2 ^ (j + 1) ≤ G
  ·rw [if_pos (decide_eq_true hg)]; exact ih k _ (by omega) hg (by omega) (by omega)
  ·rw [if_neg (by simpa using hg)]; exact ih k _ (by omega) h1 (by omega) (by omega)
theorem great_f {wy n m d : Int} {G : Nat} (hG : G < 4294967296) (hH : ∀ q : Nat, 1 ≤ q → q < 4294967296 → entrepotref05_holds.f wy (q : Int) n m d = some (decide (q ≤ G))) (k : Nat) (hk : 34 ≤ k) :
  entrepotref05_greatest.f k wy n m d = some (G : Int) := by
 unfold entrepotref05_greatest.f
 exact great hH 31 k 0 (by omega) (by omega) (by omega) (by omega)
theorem quo (a d : Nat) (ha : a ≤ 3000000000) : wrap64 (Int.tdiv (a : Int) (d : Int)) = ((a / d : Nat) : Int) := by
 have : a / d ≤ a := Nat.div_le_self _ _
 rw [Int.tdiv_eq_ediv_of_nonneg (by omega), ← Int.natCast_ediv]
 generalize a / d = z at *
 rw [wrap64_id (by omega) (by omega)]
theorem sq_lt {a b c : Nat} (h : a * a ≤ c) (hc : c < (b + 1) * (b + 1)) : a ≤ b := by
 refine Nat.le_of_not_lt fun hn => ?_
 have := sq_mono (show b + 1 ≤ a from hn)
 omega
theorem holds0 {n d q : Nat} (hn : n ≤ 80000000000000000) (hd : 1 ≤ d ∧ d ≤ 1000000) (hq : 1 ≤ q) : entrepotref05_holds.f 0 (q : Int) (n : Int) 0 (d : Int) = some (decide (q ≤ near n d)) := by
 unfold entrepotref05_holds.f
 have hb : q ≤ near n d → q * d ≤ 600000000 := fun h => by
  rcases (le_near hd.1).1 h with h | h
  ·omega
  ·have h1 := sq_lt (b := 600000000) h (by omega)
   have h2 : q * d ≤ (2 * q - 1) * d := Nat.mul_le_mul_right _ (by omega)
   omega
 have q1 : wrap64 (Int.tdiv (3000000000 : Int) (d : Int)) = ((3000000000 / d : Nat) : Int) := quo 3000000000 d (by omega)
 have q2 : wrap64 (Int.tdiv (1000000000 : Int) (d : Int)) = ((1000000000 / d : Nat) : Int) := quo 1000000000 d (by omega)
 rw [if_neg (by omega), q1, q2, if_pos rfl]
 by_cases h1 : q ≤ 3000000000 / d
 ·rw [if_neg (by omega)]
  by_cases h2 : q < 1000000000 / d
  ·rw [if_pos (by omega)]
   have h3 : (q + 1) * d ≤ 1000000000 := (Nat.le_div_iff_mul_le (by omega)).1 h2
   have h4 : (2 * q - 1) * d ≤ 2000000000 := by
    have : (2 * q - 1) * d ≤ 2 * ((q + 1) * d) := by rw [← Nat.mul_assoc]; exact Nat.mul_le_mul_right _ (by omega)
    omega
   have h5 : (2 * q - 1) * d * ((2 * q - 1) * d) ≤ 2000000000 * 2000000000 := Nat.mul_le_mul h4 h4
   have hq9 : q ≤ 3000000000 := Nat.le_trans h1 (Nat.div_le_self _ _)
   rw [wrap64_id (a := 2 * (q : Int)) (by omega) (by omega), show 2 * (q : Int) - 1 = ((2 * q - 1 : Nat) : Int) by omega, wrap64_id (a := ((2 * q - 1 : Nat) : Int)) (by omega) (by omega), ← Int.natCast_mul,
    wrap64_id (a := (((2 * q - 1) * d : Nat) : Int)) (by omega) (by omega), ← Int.natCast_mul, wrap64_id (by omega) (by omega), show 4 * (n : Int) = ((4 * n : Nat) : Int) by omega, wrap64_id (by omega) (by omega)]
   congr 1
   apply decide_eq_decide.2
   rw [le_near hd.1]
   omega
  ·rw [if_neg (by omega)]
   congr 1
   refine (decide_eq_false fun h => h2 ?_).symm
   have := hb h
   refine (Nat.le_div_iff_mul_le (by omega)).2 ?_
   rw [Nat.succ_mul]; omega
 ·rw [if_pos (by omega)]
  congr 1
  refine (decide_eq_false fun h => h1 ?_).symm
  have := hb h
  exact (Nat.le_div_iff_mul_le (by omega)).2 (by omega)
theorem holds1 {n d q : Nat} (hn : n ≤ 80000000000000000) (hd : 1 ≤ d ∧ d ≤ 1000000) : entrepotref05_holds.f 1 (q : Int) (n : Int) 10 (d : Int) = some (decide (q ≤ down n 10 d)) := by
 unfold entrepotref05_holds.f
 have q1 : wrap64 (Int.tdiv (3000000000 : Int) (d : Int)) = ((3000000000 / d : Nat) : Int) := quo 3000000000 d (by omega)
 rw [if_neg (by omega), q1]
 by_cases h1 : q ≤ 3000000000 / d
 ·rw [if_neg (by omega), if_neg (by decide), if_pos rfl]
  have h3 : q * d ≤ 3000000000 := (Nat.le_div_iff_mul_le (by omega)).1 h1
  have h5 : q * d * (q * d) ≤ 3000000000 * 3000000000 := Nat.mul_le_mul h3 h3
  rw [← Int.natCast_mul, wrap64_id (a := ((q * d : Nat) : Int)) (by omega) (by omega), ← Int.natCast_mul, wrap64_id (by omega) (by omega), show wrap64 (10 * 10) = 100 from wrap64_id (a := 100) (by omega) (by omega), wrap64_id (by omega) (by omega)]
  congr 1
  apply decide_eq_decide.2
  rw [le_down hd.1]
  omega
 ·rw [if_pos (by omega)]
  congr 1
  refine (decide_eq_false fun h => h1 ?_).symm
  have := sq_lt (b := 2900000000) ((le_down hd.1).1 h) (by omega)
  exact (Nat.le_div_iff_mul_le (by omega)).2 (by omega)
theorem holds2 {n d k q : Nat} (hn : n ≤ 80000000000000000) (hd : 1 ≤ d ∧ d ≤ 1000000) (hk : 1 ≤ k ∧ k ≤ 10) : entrepotref05_holds.f 2 (q : Int) (n : Int) (k : Int) (d : Int) = some (decide (q + 1 ≤ ceil n k d)) := by
 unfold entrepotref05_holds.f
 have hc : q + 1 ≤ ceil n k d ↔ q * d * (q * d) * k < n := by
  have := ceil_le (n := n) (q := q) hk.1 hd.1
  omega
 have hb : q + 1 ≤ ceil n k d → q * d ≤ 290000000 := fun h => by
  have h1 := hc.1 h
  have h2 : q * d * (q * d) ≤ q * d * (q * d) * k := Nat.le_mul_of_pos_right _ (by omega)
  exact sq_lt (b := 290000000) (show q * d * (q * d) ≤ 80000000000000000 by omega) (by omega)
 have q1 : wrap64 (Int.tdiv (3000000000 : Int) (d : Int)) = ((3000000000 / d : Nat) : Int) := quo 3000000000 d (by omega)
 have q2 : wrap64 (Int.tdiv (300000000 : Int) (d : Int)) = ((300000000 / d : Nat) : Int) := quo 300000000 d (by omega)
 rw [if_neg (by omega), q1, q2]
 by_cases h1 : q ≤ 3000000000 / d
 ·rw [if_neg (by omega), if_neg (by decide), if_neg (by decide)]
  by_cases h2 : q ≤ 300000000 / d
  ·rw [if_pos (by omega)]
   have h3 : q * d ≤ 300000000 := (Nat.le_div_iff_mul_le (by omega)).1 h2
   have h5 : q * d * (q * d) ≤ 300000000 * 300000000 := Nat.mul_le_mul h3 h3
   have h6 : q * d * (q * d) * k ≤ 300000000 * 300000000 * 10 := Nat.mul_le_mul h5 hk.2
   rw [← Int.natCast_mul, wrap64_id (a := ((q * d : Nat) : Int)) (by omega) (by omega), ← Int.natCast_mul, wrap64_id (a := ((q * d * (q * d) : Nat) : Int)) (by omega) (by omega), ← Int.natCast_mul, Nat.mul_comm k, wrap64_id (by omega) (by omega)]
   congr 1
   apply decide_eq_decide.2
   rw [hc]
   omega
  ·rw [if_neg (by omega)]
   congr 1
   refine (decide_eq_false fun h => h2 ?_).symm
   have := hb h
   exact (Nat.le_div_iff_mul_le (by omega)).2 (by omega)
 ·rw [if_pos (by omega)]
  congr 1
  refine (decide_eq_false fun h => h1 ?_).symm
  have := hb h
  exact (Nat.le_div_iff_mul_le (by omega)).2 (by omega)
theorem near_ref {n d : Nat} (hn : n ≤ 80000000000000000) (hd : 1 ≤ d ∧ d ≤ 1000000) (k : Nat) (hk : 34 ≤ k) : entrepotref05_Near.f k (n : Int) (d : Int) = some (near n d : Int) := by
 unfold entrepotref05_Near.f
 have hG : near n d < 4294967296 := by
  rcases (le_near (n := n) hd.1).1 (Nat.le_refl _) with h | h
  ·omega
  ·have h1 := sq_lt (b := 600000000) h (by omega)
   have h2 : (2 * near n d - 1) * 1 ≤ (2 * near n d - 1) * d := Nat.mul_le_mul_left _ hd.1
   omega
 rw [great_f hG (fun q h1 _ => holds0 hn hd h1) k hk]; rfl
theorem down_ref {n d : Nat} (hn : n ≤ 80000000000000000) (hd : 1 ≤ d ∧ d ≤ 1000000) (k : Nat) (hk : 34 ≤ k) : entrepotref05_Down.f k (n : Int) 10 (d : Int) = some (down n 10 d : Int) := by
 unfold entrepotref05_Down.f
 have hG : down n 10 d < 4294967296 := by
  have h1 := sq_lt (b := 2900000000) ((le_down (n := n) (m := 10) hd.1).1 (Nat.le_refl _)) (by omega)
  have h2 : down n 10 d * 1 ≤ down n 10 d * d := Nat.mul_le_mul_left _ hd.1
  omega
 rw [great_f hG (fun q _ _ => holds1 hn hd) k hk]; rfl
theorem ceil_ref {n d c : Nat} (hn : n ≤ 80000000000000000) (hd : 1 ≤ d ∧ d ≤ 1000000) (hc : 1 ≤ c ∧ c ≤ 10) (k : Nat) (hk : 34 ≤ k) : entrepotref05_Ceil.f k (n : Int) (c : Int) (d : Int) = some (ceil n c d : Int) := by
 unfold entrepotref05_Ceil.f
 by_cases h0 : n = 0
 ·subst h0
  have : ceil 0 c d = 0 := Nat.le_zero.1 ((ceil_le hc.1 hd.1).2 (by omega))
  rw [if_pos (by omega), this]; rfl
 ·have hp : 1 ≤ ceil n c d := by
   refine Nat.le_of_not_lt fun h => ?_
   have := (ceil_le (n := n) (q := 0) hc.1 hd.1).1 (by omega)
   omega
  have hG : ceil n c d ≤ 1000000000 := by
   rw [ceil_le hc.1 hd.1]
   have h1 : 1000000000 ≤ 1000000000 * d := Nat.le_mul_of_pos_right _ (by omega)
   have h2 : 1000000000 * 1000000000 ≤ 1000000000 * d * (1000000000 * d) := Nat.mul_le_mul h1 h1
   have h3 : 1000000000 * d * (1000000000 * d) ≤ 1000000000 * d * (1000000000 * d) * c := Nat.le_mul_of_pos_right _ (by omega)
   omega
  have hg := great_f (wy := 2) (n := (n : Int)) (m := (c : Int)) (d := (d : Int)) (G := ceil n c d - 1) (by omega) (fun q _ _ => by
   rw [holds2 hn hd hc]; congr 1; apply decide_eq_decide.2; omega) k hk
  rw [if_neg (by omega), hg, bind_s, wrap64_id (by omega) (by omega)]
  congr 1; omega
theorem nst_ref {a t : Nat} (ha : a ≤ 400000000) (ht : 1 ≤ t ∧ t ≤ 1000000) (he : t = 1 ∨ t % 2 = 0) : entrepotref06_nearest.f (a : Int) (t : Int) = some (nst a t : Int) := by
 unfold entrepotref06_nearest.f
 rw [wrap64_id (a := 2 * (t : Int)) (by omega) (by omega), wrap64_id (a := 2 * (a : Int)) (by omega) (by omega), wrap64_id (a := 2 * (a : Int) + (t : Int)) (by omega) (by omega), if_neg (by omega),
  show 2 * (a : Int) + (t : Int) = ((2 * a + t : Nat) : Int) by omega, show 2 * (t : Int) = ((2 * t : Nat) : Int) by omega, Int.tdiv_eq_ediv_of_nonneg (by omega), ← Int.natCast_ediv]
 have e : (2 * a + t) / (2 * t) = nst a t := by
  unfold nst
  rcases he with rfl | h
  ·omega
  ·rw [show 2 * a + t = 2 * (a + t / 2) by omega, Nat.mul_div_mul_left _ _ (by omega)]
 have h1 : (2 * a + t) / (2 * t) ≤ 2 * a + t := Nat.div_le_self _ _
 rw [e] at *
 generalize nst a t = z at *
 rw [wrap64_id (by omega) (by omega)]
theorem ten_even (k : Nat) : ten k = 1 ∨ ten k % 2 = 0 := by
 cases k with
 | zero => left; rfl
 | succ k => right; rw [ten_succ]; omega
theorem nst_mono {a b t : Nat} (ht : 1 ≤ t) (h : a ≤ b) : nst a t ≤ nst b t := by
 rw [le_nst ht]
 have := (le_nst (a := a) ht).1 (Nat.le_refl _)
 omega
theorem nst_max {a b t : Nat} (ht : 1 ≤ t) : max (nst a t) (nst b t) = nst (max a b) t := by
 rcases Nat.le_total a b with h | h
 ·rw [Nat.max_eq_right h, Nat.max_eq_right (nst_mono ht h)]
 ·rw [Nat.max_eq_left h, Nat.max_eq_left (nst_mono ht h)]
theorem mx_nat (a b : Nat) : mx (a : Int) (b : Int) = ((max a b : Nat) : Int) := by unfold mx; omega
/-- The document's way, at its scale's last round. -/
theorem ref_way {m s : Int} {x y : Int} (hb : ¬ badK m s) (hx : ¬ far x) (hy : ¬ far y) : ∀ (j k : Nat), s.toNat - j + 40 ≤ k → j ≤ s.toNat →
  entrepotref06_Dist.l0 k m s (x.natAbs : Int) (y.natAbs : Int) (sq2 x y : Int) (ten j : Int) (j : Int) = some ((way m (ten s.toNat) x y : Int), 0) := by
 have hs : s.toNat ≤ 6 ∧ 0 ≤ s := by unfold badK at hb; omega
 have hm : 1 ≤ m ∧ m ≤ 6 := by unfold badK at hb; omega
 intro j k
 obtain ⟨e, he⟩ : ∃ e, e = s.toNat - j := ⟨_, rfl⟩
 induction e generalizing j k with
 | zero =>
  intro hk hj
  obtain rfl : j = s.toNat := by omega
  obtain ⟨k, rfl⟩ : ∃ k', k = k' + 1 := ⟨k - 1, by omega⟩
  have ht := ten_le hs.1
  have hn := sum_sq hx hy
  simp only [entrepotref06_Dist.l0]
  rw [if_neg (by omega)]
  unfold way
  have hab : x.natAbs ≤ 200000000 ∧ y.natAbs ≤ 200000000 := by unfold far at hx hy; omega
  have hev := ten_even s.toNat
  by_cases m1 : m = 1
  ·rw [if_pos m1, if_pos m1, near_ref hn.2 ht k (by omega)]; rfl
  rw [if_neg m1, if_neg m1]
  by_cases m2 : m = 2
  ·rw [if_pos m2, if_pos m2, show (1 : Int) = ((1 : Nat) : Int) from rfl, ceil_ref hn.2 ht (by omega) k (by omega)]; rfl
  rw [if_neg m2, if_neg m2]
  by_cases m3 : m = 3
  ·rw [if_pos m3, if_pos m3, show (x.natAbs : Int) + (y.natAbs : Int) = ((x.natAbs + y.natAbs : Nat) : Int) by omega, wrap64_id (by omega) (by omega), nst_ref (by omega) ht hev]; rfl
  rw [if_neg m3, if_neg m3]
  by_cases m4 : m = 4
  ·rw [if_pos m4, if_pos m4, nst_ref (by omega) ht hev, bind_s, nst_ref (by omega) ht hev, bind_s, mx_nat, nst_max ht.1]
  rw [if_neg m4, if_neg m4]
  by_cases m5 : m = 5
  ·rw [if_pos m5, if_pos m5, show (10 : Int) = ((10 : Nat) : Int) from rfl, ceil_ref hn.2 ht (by omega) k (by omega)]; rfl
  rw [if_neg m5, if_neg m5, down_ref hn.2 ht k (by omega)]; rfl
 | succ e ih =>
  intro hk hj
  obtain ⟨k, rfl⟩ : ∃ k', k = k' + 1 := ⟨k - 1, by omega⟩
  have ht := ten_le (show j ≤ 6 by omega)
  simp only [entrepotref06_Dist.l0]
  rw [if_pos (by omega), show 10 * ((ten j : Nat) : Int) = ((ten (j + 1) : Nat) : Int) by rw [ten_succ]; omega, show (j : Int) + 1 = ((j + 1 : Nat) : Int) by omega]
  have ht2 : ten (j + 1) ≤ 10000000 := by rw [ten_succ]; omega
  rw [wrap64_id (by omega) (by omega), wrap64_id (by omega) (by omega)]
  exact ih (j + 1) k (by omega) (by omega) (by omega)
theorem ref_far (a : Int) : entrepotref06_far.f a = some (decide (far a)) := by
 unfold entrepotref06_far.f
 by_cases h : a < -200000000
 ·rw [if_pos h, decide_eq_true (show far a from Or.inl h)]
 ·rw [if_neg h]; congr 1; apply decide_eq_decide.2; unfold far; omega
theorem mx_abs {a : Int} (h : ¬ far a) : mx a (wrap64 (-a)) = (a.natAbs : Int) := by
 rw [(far_neg h).2]; unfold mx; omega
theorem ref_dist (m s x y : Int) : entrepotref06_Dist.f 60 m s x y = metric_Dist.f m s x y := by
 have bad : badK m s → entrepotref06_Dist.j0 60 m s x y true = metric_Dist.f m s x y := fun h => by rw [dist_bad x y h]; rfl
 unfold entrepotref06_Dist.f
 by_cases h1 : m < 1
 ·rw [if_pos h1]; exact bad (by unfold badK; omega)
 rw [if_neg h1]
 by_cases h2 : m > 6
 ·rw [if_pos h2]; exact bad (by unfold badK; omega)
 rw [if_neg h2]
 by_cases h3 : s < 0
 ·rw [if_pos h3]; exact bad (by unfold badK; omega)
 rw [if_neg h3]
 by_cases h4 : s > 6
 ·rw [decide_eq_true h4]; exact bad (by unfold badK; omega)
 rw [decide_eq_false h4]
 have hb : ¬ badK m s := by unfold badK; omega
 simp only [entrepotref06_Dist.j0]
 rw [if_neg (by decide), ref_far, bind_s]
 by_cases h5 : far x
 ·rw [if_pos (decide_eq_true h5), dist_far hb (Or.inl h5)]; rfl
 rw [if_neg (by simpa using h5), ref_far, bind_s]
 by_cases h6 : far y
 ·rw [decide_eq_true h6, dist_far hb (Or.inr h6)]; rfl
 rw [decide_eq_false h6]
 simp only [entrepotref06_Dist.j1]
 rw [if_neg (by decide), mx_abs h5, mx_abs h6, dist_ok hb h5 h6]
 have e : wrap64 (wrap64 ((x.natAbs : Int) * (x.natAbs : Int)) + wrap64 ((y.natAbs : Int) * (y.natAbs : Int))) = (sq2 x y : Int) := by
  have := (sum_sq h5 h6).1
  rw [← Int.natAbs_mul_self, ← Int.natAbs_mul_self, Int.natCast_mul, Int.natCast_mul] at this
  exact this
 rw [e]
 exact ref_way hb h5 h6 0 58 (by unfold badK at hb; omega) (by omega)
end Go.Proofs.Ytlncbckpcmojpaa.RefDist
