/- Written by a program of this session, after the kit's print: Lean functions for Go functions, and the proof that the machine comes to their answers. -/
import Derived.Test.YtnkhkjdmdjldaaaPx0
import Derived.Test.YtnkhkjdmdjldaaaPxEntrepotlaw05Shown
import Derived.Test.YtnkhkjdmdjldaaaPxRootCeil
import Derived.Test.YtnkhkjdmdjldaaaPxRootDown
import Derived.Test.YtnkhkjdmdjldaaaPxRootNear
import Derived.Test.YtnkhkjdmdjldaaaGFloor
namespace Go.Proofs.Ytnkhkjdmdjldaaa.P
open Go.RowKit Go.Proofs.YtnkhkjdmdjldaaaW.PrintWords Go.Proofs.YtnkhkjdmdjldaaaW.PrintLast Go.Proofs.YtnkhkjdmdjldaaaW.PrintMore
attribute [local go_sem] max2_int min2_int max_two min_two max_three min_three max_four min_four   -- for this text's walks alone
set_option linter.unusedVariables false
set_option linter.unusedSimpArgs false

/-! ### entrepotlaw05_RootSquares: function 3 -/
def entrepotlaw05_RootSquares.j0 : Nat → Int → Int → Int → Bool → Option (Bool)
  | 0, _, _, _, _ => none
  | k + 1, x5, x6, x7, x26 => if x26 = true then ((entrepotlaw05_shown.f).bind fun t116 => (some t116)) else ((root_Floor.f (wrap64 (x5 * x5))).bind fun t117 => (if t117 = x5 then ((root_Near.f x7 x6).bind fun t118 => (if t118 = x5 then ((root_Down.f x7 1 x6).bind fun t119 => (if t119 = x5 then ((root_Ceil.f x7 1 x6).bind fun t120 => (if t120 = x5 then ((root_Down.f x7 10 x6).bind fun t121 => (if t121 = (wrap64 (10 * x5)) then ((root_Floor.f x7).bind fun t122 => (some (t122 == (wrap64 (x5 * x6))))) else (some false))) else (some false))) else (some false))) else (some false))) else (some false)))
def entrepotlaw05_RootSquares.f (k : Nat) (a0 : Int) (a1 : Int) : Option (Bool) := if (wrap64 ((wrap64 ((wrap64 ((Int.tmod (wrap64 (a0)) 1000000) * (Int.tmod (wrap64 (a0)) 1000000))) * (wrap64 (1 + (wrap64 (a1)))))) * (wrap64 (1 + (wrap64 (a1)))))) > 80000000000000000 then (entrepotlaw05_RootSquares.j0 k (Int.tmod (wrap64 (a0)) 1000000) (wrap64 (1 + (wrap64 (a1)))) (wrap64 ((wrap64 ((wrap64 ((Int.tmod (wrap64 (a0)) 1000000) * (Int.tmod (wrap64 (a0)) 1000000))) * (wrap64 (1 + (wrap64 (a1)))))) * (wrap64 (1 + (wrap64 (a1)))))) true) else ((entrepotlaw05_shown.f).bind fun t115 => (entrepotlaw05_RootSquares.j0 k (Int.tmod (wrap64 (a0)) 1000000) (wrap64 (1 + (wrap64 (a1)))) (wrap64 ((wrap64 ((wrap64 ((Int.tmod (wrap64 (a0)) 1000000) * (Int.tmod (wrap64 (a0)) 1000000))) * (wrap64 (1 + (wrap64 (a1)))))) * (wrap64 (1 + (wrap64 (a1)))))) (!t115)))
theorem entrepotlaw05_RootSquares.mono_l : ∀ k, (∀ y0 y1 y2 y3, LeO (entrepotlaw05_RootSquares.j0 k y0 y1 y2 y3) (entrepotlaw05_RootSquares.j0 (k + 1) y0 y1 y2 y3))
  | 0 => fun _ _ _ _ r h => by simp [entrepotlaw05_RootSquares.j0] at h
  | k + 1 => by
    have ih0 := entrepotlaw05_RootSquares.mono_l k
    · intro y0 y1 y2 y3
      unfold entrepotlaw05_RootSquares.j0
      repeat' first
      | (with_reducible exact ih0 _ _ _ _)
      | (with_reducible exact LeO.refl _)
      | (with_reducible exact LeO.none _)
      | (with_reducible refine LeO.ite ?_ ?_)
      | (with_reducible refine LeO.bind ?_ (fun _ => ?_))
      | exact ih0 _ _ _ _
      | exact LeO.none _
      | refine LeO.ite ?_ ?_
      | refine LeO.bind ?_ (fun _ => ?_)
theorem entrepotlaw05_RootSquares.mono : ∀ a0 a1 k, LeO (entrepotlaw05_RootSquares.f k a0 a1) (entrepotlaw05_RootSquares.f (k + 1) a0 a1) := by
  intro a0 a1 k
  have ih0 := entrepotlaw05_RootSquares.mono_l k
  unfold entrepotlaw05_RootSquares.f
  repeat' first
      | (with_reducible exact ih0 _ _ _ _)
      | (with_reducible exact LeO.refl _)
      | (with_reducible exact LeO.none _)
      | (with_reducible refine LeO.ite ?_ ?_)
      | (with_reducible refine LeO.bind ?_ (fun _ => ?_))
      | exact ih0 _ _ _ _
      | exact LeO.none _
      | refine LeO.ite ?_ ?_
      | refine LeO.bind ?_ (fun _ => ?_)
set_option maxHeartbeats 8000000 in
set_option maxRecDepth 100000 in
theorem entrepotlaw05_RootSquares.calls (k : Nat) (a0 : Int) (a1 : Int) (r : Bool) (w : World) (h : entrepotlaw05_RootSquares.f k a0 a1 = some r) :
    Calls Try.prog 3 #[.int .u32 a0, .int .u8 a1] w fun e w' => e = .returned (.bool r) ∧ Below w.heap.size w w' := by
  have HB := Aside0.mk (Below.refl w.heap.size w)
  have H : (if (wrap64 ((wrap64 ((wrap64 ((Int.tmod (wrap64 (a0)) 1000000) * (Int.tmod (wrap64 (a0)) 1000000))) * (wrap64 (1 + (wrap64 (a1)))))) * (wrap64 (1 + (wrap64 (a1)))))) > 80000000000000000 then (entrepotlaw05_RootSquares.j0 k (Int.tmod (wrap64 (a0)) 1000000) (wrap64 (1 + (wrap64 (a1)))) (wrap64 ((wrap64 ((wrap64 ((Int.tmod (wrap64 (a0)) 1000000) * (Int.tmod (wrap64 (a0)) 1000000))) * (wrap64 (1 + (wrap64 (a1)))))) * (wrap64 (1 + (wrap64 (a1)))))) true) else ((entrepotlaw05_shown.f).bind fun t115 => (entrepotlaw05_RootSquares.j0 k (Int.tmod (wrap64 (a0)) 1000000) (wrap64 (1 + (wrap64 (a1)))) (wrap64 ((wrap64 ((wrap64 ((Int.tmod (wrap64 (a0)) 1000000) * (Int.tmod (wrap64 (a0)) 1000000))) * (wrap64 (1 + (wrap64 (a1)))))) * (wrap64 (1 + (wrap64 (a1)))))) (!t115)))) = some r := h
  clear h
  have HC3 := Aside0.mk H
  clear H
  go_enter Try.func3, Try.ntmps3
  go_upto_region 4 with (fail)
  go_cut [26] (fun v26 wc => ∃ (kq : Nat) (x26_2 : Bool), v26 = .bool x26_2 ∧ Aside0 (entrepotlaw05_RootSquares.j0 kq (Int.tmod (wrap64 (a0)) 1000000) (wrap64 (1 + (wrap64 (a1)))) (wrap64 ((wrap64 ((wrap64 ((Int.tmod (wrap64 (a0)) 1000000) * (Int.tmod (wrap64 (a0)) 1000000))) * (wrap64 (1 + (wrap64 (a1)))))) * (wrap64 (1 + (wrap64 (a1)))))) x26_2 = some r) ∧ Aside0 (kq ≤ k) ∧ Aside0 (Below w.heap.size w wc))
  case first =>
    have H := HC3.out
    clear HC3
    by_cases c4 : (wrap64 ((wrap64 ((wrap64 ((Int.tmod (wrap64 (a0)) 1000000) * (Int.tmod (wrap64 (a0)) 1000000))) * (wrap64 (1 + (wrap64 (a1)))))) * (wrap64 (1 + (wrap64 (a1)))))) > 80000000000000000
    · rw [if_pos c4] at H
      have c4b0 : decide (80000000000000000 < (wrap64 ((wrap64 ((wrap64 ((Int.tmod (wrap64 (a0)) 1000000) * (Int.tmod (wrap64 (a0)) 1000000))) * (wrap64 (1 + (wrap64 (a1)))))) * (wrap64 (1 + (wrap64 (a1))))))) = true := decide_eq_true c4
      clear c4
      (first | rw [c4b0] | (simp only [i64_w, i32_w]; rw [c4b0]) | skip)
      have H' := Aside0.mk H
      clear H
      go_wp2
      go_meet
      case rel => exact ⟨_, (true), (by first | rfl | (simp; done) | (simp [*]; done)), H', ⟨by first | omega | exact Nat.le_refl _⟩, ⟨by repeat (first | (with_reducible first | exact HB.out | apply below_alloc | apply pw_below_drewN | apply below_drew1) | exact HB.out)⟩⟩
    · rw [if_neg c4] at H
      have c4b0 : decide (80000000000000000 < (wrap64 ((wrap64 ((wrap64 ((Int.tmod (wrap64 (a0)) 1000000) * (Int.tmod (wrap64 (a0)) 1000000))) * (wrap64 (1 + (wrap64 (a1)))))) * (wrap64 (1 + (wrap64 (a1))))))) = false := decide_eq_false c4
      clear c4
      (first | rw [c4b0] | (simp only [i64_w, i32_w]; rw [c4b0]) | skip)
      replace H := Option.bind_eq_some_iff.mp H
      obtain ⟨t115, A50, H⟩ := H
      replace H : (entrepotlaw05_RootSquares.j0 k (Int.tmod (wrap64 (a0)) 1000000) (wrap64 (1 + (wrap64 (a1)))) (wrap64 ((wrap64 ((wrap64 ((Int.tmod (wrap64 (a0)) 1000000) * (Int.tmod (wrap64 (a0)) 1000000))) * (wrap64 (1 + (wrap64 (a1)))))) * (wrap64 (1 + (wrap64 (a1)))))) (!t115)) = some r := H
      have A5 := Aside0.mk A50
      clear A50
      have H' := Aside0.mk H
      clear H
      go_wp2_with (first | (go_at_call 7; (with_reducible refine (entrepotlaw05_shown.calls  t115 _ A5.out).mono ?_); rintro e w6 ⟨rfl, hb⟩; have n0_ := Aside0.mk (below_step (by repeat (first | (with_reducible first | exact HB.out | apply below_alloc | apply pw_below_drewN | apply below_drew1) | exact HB.out)) hb); clear HB; have HB := n0_; clear n0_; (try clear hb); (try clear hb2); (try clear hk); (try clear hi)))
      go_meet
      case rel => exact ⟨_, (!t115), (by first | rfl | (simp; done) | (simp [*]; done)), H', ⟨by first | omega | exact Nat.le_refl _⟩, ⟨by repeat (first | (with_reducible first | exact HB.out | apply below_alloc | apply pw_below_drewN | apply below_drew1) | exact HB.out)⟩⟩
  case rest =>
    clear HC3
    try clear p2
    try clear c3
    try clear c4
    try clear c4b0
    try clear p6
    obtain ⟨kq, x26_2, rfl, HA, HJ2, HB⟩ := hcut
    cases kq with
    | zero => exact absurd HA.out (by simp [entrepotlaw05_RootSquares.j0])
    | succ kj2 =>
      have H := HA.out
      clear HA
      simp only [entrepotlaw05_RootSquares.j0] at H
      by_cases c7 : x26_2 = true
      · subst c7
        have H1 : ((entrepotlaw05_shown.f).bind fun t116 => (some t116)) = some r := by rw [if_pos rfl] at H; exact H
        clear H
        have H := H1
        clear H1
        replace H := Option.bind_eq_some_iff.mp H
        obtain ⟨t116, A80, H⟩ := H
        replace H : (some t116) = some r := H
        have A8 := Aside0.mk A80
        clear A80
        obtain rfl := Option.some.inj H
        go_wp2_with (first | ((with_reducible refine gate_callee (f := 7) rfl ?_); refine goesL_ (some 27) rfl rfl Try.func7 (by kernel_rfl) rfl #[] rfl (by (try simp only [List.map_toArray, List.map_cons, List.map_nil]); first | done | rfl | (simp only [List.length_drop, List.length_take]; rfl)) ?_; (with_reducible refine (entrepotlaw05_shown.calls  t116 _ A8.out).mono ?_); rintro e w9 ⟨rfl, hb⟩; refine ⟨_, rfl, ?_⟩; have n0_ := Aside0.mk (below_step (by repeat (first | (with_reducible first | exact HB.out | apply below_alloc | apply pw_below_drewN | apply below_drew1) | exact HB.out)) hb); clear HB; have HB := n0_; clear n0_; (try clear hb); (try clear hb2); (try clear hk); (try clear hi)))
        go_ret
        exact ⟨by first | rfl | (simp [errW_none, errW_some] <;> rfl) | (simp [*, errW_none, errW_some] <;> rfl), by repeat (first | (with_reducible first | exact HB.out | apply below_alloc | apply pw_below_drewN | apply below_drew1) | exact HB.out)⟩
      · replace c7 := Bool.eq_false_iff.mpr c7
        subst c7
        have H1 : ((root_Floor.f (wrap64 ((Int.tmod (wrap64 (a0)) 1000000) * (Int.tmod (wrap64 (a0)) 1000000)))).bind fun t117 => (if t117 = (Int.tmod (wrap64 (a0)) 1000000) then ((root_Near.f (wrap64 ((wrap64 ((wrap64 ((Int.tmod (wrap64 (a0)) 1000000) * (Int.tmod (wrap64 (a0)) 1000000))) * (wrap64 (1 + (wrap64 (a1)))))) * (wrap64 (1 + (wrap64 (a1)))))) (wrap64 (1 + (wrap64 (a1))))).bind fun t118 => (if t118 = (Int.tmod (wrap64 (a0)) 1000000) then ((root_Down.f (wrap64 ((wrap64 ((wrap64 ((Int.tmod (wrap64 (a0)) 1000000) * (Int.tmod (wrap64 (a0)) 1000000))) * (wrap64 (1 + (wrap64 (a1)))))) * (wrap64 (1 + (wrap64 (a1)))))) 1 (wrap64 (1 + (wrap64 (a1))))).bind fun t119 => (if t119 = (Int.tmod (wrap64 (a0)) 1000000) then ((root_Ceil.f (wrap64 ((wrap64 ((wrap64 ((Int.tmod (wrap64 (a0)) 1000000) * (Int.tmod (wrap64 (a0)) 1000000))) * (wrap64 (1 + (wrap64 (a1)))))) * (wrap64 (1 + (wrap64 (a1)))))) 1 (wrap64 (1 + (wrap64 (a1))))).bind fun t120 => (if t120 = (Int.tmod (wrap64 (a0)) 1000000) then ((root_Down.f (wrap64 ((wrap64 ((wrap64 ((Int.tmod (wrap64 (a0)) 1000000) * (Int.tmod (wrap64 (a0)) 1000000))) * (wrap64 (1 + (wrap64 (a1)))))) * (wrap64 (1 + (wrap64 (a1)))))) 10 (wrap64 (1 + (wrap64 (a1))))).bind fun t121 => (if t121 = (wrap64 (10 * (Int.tmod (wrap64 (a0)) 1000000))) then ((root_Floor.f (wrap64 ((wrap64 ((wrap64 ((Int.tmod (wrap64 (a0)) 1000000) * (Int.tmod (wrap64 (a0)) 1000000))) * (wrap64 (1 + (wrap64 (a1)))))) * (wrap64 (1 + (wrap64 (a1))))))).bind fun t122 => (some (t122 == (wrap64 ((Int.tmod (wrap64 (a0)) 1000000) * (wrap64 (1 + (wrap64 (a1))))))))) else (some false))) else (some false))) else (some false))) else (some false))) else (some false))) = some r := by rw [if_neg (show ¬ (false = true) by decide)] at H; exact H
        clear H
        have H := H1
        clear H1
        replace H := Option.bind_eq_some_iff.mp H
        obtain ⟨t117, A100, H⟩ := H
        replace H : (if t117 = (Int.tmod (wrap64 (a0)) 1000000) then ((root_Near.f (wrap64 ((wrap64 ((wrap64 ((Int.tmod (wrap64 (a0)) 1000000) * (Int.tmod (wrap64 (a0)) 1000000))) * (wrap64 (1 + (wrap64 (a1)))))) * (wrap64 (1 + (wrap64 (a1)))))) (wrap64 (1 + (wrap64 (a1))))).bind fun t118 => (if t118 = (Int.tmod (wrap64 (a0)) 1000000) then ((root_Down.f (wrap64 ((wrap64 ((wrap64 ((Int.tmod (wrap64 (a0)) 1000000) * (Int.tmod (wrap64 (a0)) 1000000))) * (wrap64 (1 + (wrap64 (a1)))))) * (wrap64 (1 + (wrap64 (a1)))))) 1 (wrap64 (1 + (wrap64 (a1))))).bind fun t119 => (if t119 = (Int.tmod (wrap64 (a0)) 1000000) then ((root_Ceil.f (wrap64 ((wrap64 ((wrap64 ((Int.tmod (wrap64 (a0)) 1000000) * (Int.tmod (wrap64 (a0)) 1000000))) * (wrap64 (1 + (wrap64 (a1)))))) * (wrap64 (1 + (wrap64 (a1)))))) 1 (wrap64 (1 + (wrap64 (a1))))).bind fun t120 => (if t120 = (Int.tmod (wrap64 (a0)) 1000000) then ((root_Down.f (wrap64 ((wrap64 ((wrap64 ((Int.tmod (wrap64 (a0)) 1000000) * (Int.tmod (wrap64 (a0)) 1000000))) * (wrap64 (1 + (wrap64 (a1)))))) * (wrap64 (1 + (wrap64 (a1)))))) 10 (wrap64 (1 + (wrap64 (a1))))).bind fun t121 => (if t121 = (wrap64 (10 * (Int.tmod (wrap64 (a0)) 1000000))) then ((root_Floor.f (wrap64 ((wrap64 ((wrap64 ((Int.tmod (wrap64 (a0)) 1000000) * (Int.tmod (wrap64 (a0)) 1000000))) * (wrap64 (1 + (wrap64 (a1)))))) * (wrap64 (1 + (wrap64 (a1))))))).bind fun t122 => (some (t122 == (wrap64 ((Int.tmod (wrap64 (a0)) 1000000) * (wrap64 (1 + (wrap64 (a1))))))))) else (some false))) else (some false))) else (some false))) else (some false))) else (some false)) = some r := H
        have A10 := Aside0.mk A100
        clear A100
        by_cases c11 : t117 = (Int.tmod (wrap64 (a0)) 1000000)
        · rw [if_pos c11] at H
          have c11b0 : (t117 == (Int.tmod (wrap64 (a0)) 1000000)) = true := beq_iff_eq.mpr c11
          have c11b1 : (t117 != (Int.tmod (wrap64 (a0)) 1000000)) = false := bne_eq_false_iff_eq.mpr c11
          clear c11
          replace H := Option.bind_eq_some_iff.mp H
          obtain ⟨t118, A120, H⟩ := H
          replace H : (if t118 = (Int.tmod (wrap64 (a0)) 1000000) then ((root_Down.f (wrap64 ((wrap64 ((wrap64 ((Int.tmod (wrap64 (a0)) 1000000) * (Int.tmod (wrap64 (a0)) 1000000))) * (wrap64 (1 + (wrap64 (a1)))))) * (wrap64 (1 + (wrap64 (a1)))))) 1 (wrap64 (1 + (wrap64 (a1))))).bind fun t119 => (if t119 = (Int.tmod (wrap64 (a0)) 1000000) then ((root_Ceil.f (wrap64 ((wrap64 ((wrap64 ((Int.tmod (wrap64 (a0)) 1000000) * (Int.tmod (wrap64 (a0)) 1000000))) * (wrap64 (1 + (wrap64 (a1)))))) * (wrap64 (1 + (wrap64 (a1)))))) 1 (wrap64 (1 + (wrap64 (a1))))).bind fun t120 => (if t120 = (Int.tmod (wrap64 (a0)) 1000000) then ((root_Down.f (wrap64 ((wrap64 ((wrap64 ((Int.tmod (wrap64 (a0)) 1000000) * (Int.tmod (wrap64 (a0)) 1000000))) * (wrap64 (1 + (wrap64 (a1)))))) * (wrap64 (1 + (wrap64 (a1)))))) 10 (wrap64 (1 + (wrap64 (a1))))).bind fun t121 => (if t121 = (wrap64 (10 * (Int.tmod (wrap64 (a0)) 1000000))) then ((root_Floor.f (wrap64 ((wrap64 ((wrap64 ((Int.tmod (wrap64 (a0)) 1000000) * (Int.tmod (wrap64 (a0)) 1000000))) * (wrap64 (1 + (wrap64 (a1)))))) * (wrap64 (1 + (wrap64 (a1))))))).bind fun t122 => (some (t122 == (wrap64 ((Int.tmod (wrap64 (a0)) 1000000) * (wrap64 (1 + (wrap64 (a1))))))))) else (some false))) else (some false))) else (some false))) else (some false)) = some r := H
          have A12 := Aside0.mk A120
          clear A120
          by_cases c13 : t118 = (Int.tmod (wrap64 (a0)) 1000000)
          · rw [if_pos c13] at H
            have c13b0 : (t118 == (Int.tmod (wrap64 (a0)) 1000000)) = true := beq_iff_eq.mpr c13
            have c13b1 : (t118 != (Int.tmod (wrap64 (a0)) 1000000)) = false := bne_eq_false_iff_eq.mpr c13
            clear c13
            replace H := Option.bind_eq_some_iff.mp H
            obtain ⟨t119, A140, H⟩ := H
            replace H : (if t119 = (Int.tmod (wrap64 (a0)) 1000000) then ((root_Ceil.f (wrap64 ((wrap64 ((wrap64 ((Int.tmod (wrap64 (a0)) 1000000) * (Int.tmod (wrap64 (a0)) 1000000))) * (wrap64 (1 + (wrap64 (a1)))))) * (wrap64 (1 + (wrap64 (a1)))))) 1 (wrap64 (1 + (wrap64 (a1))))).bind fun t120 => (if t120 = (Int.tmod (wrap64 (a0)) 1000000) then ((root_Down.f (wrap64 ((wrap64 ((wrap64 ((Int.tmod (wrap64 (a0)) 1000000) * (Int.tmod (wrap64 (a0)) 1000000))) * (wrap64 (1 + (wrap64 (a1)))))) * (wrap64 (1 + (wrap64 (a1)))))) 10 (wrap64 (1 + (wrap64 (a1))))).bind fun t121 => (if t121 = (wrap64 (10 * (Int.tmod (wrap64 (a0)) 1000000))) then ((root_Floor.f (wrap64 ((wrap64 ((wrap64 ((Int.tmod (wrap64 (a0)) 1000000) * (Int.tmod (wrap64 (a0)) 1000000))) * (wrap64 (1 + (wrap64 (a1)))))) * (wrap64 (1 + (wrap64 (a1))))))).bind fun t122 => (some (t122 == (wrap64 ((Int.tmod (wrap64 (a0)) 1000000) * (wrap64 (1 + (wrap64 (a1))))))))) else (some false))) else (some false))) else (some false)) = some r := H
            have A14 := Aside0.mk A140
            clear A140
            by_cases c15 : t119 = (Int.tmod (wrap64 (a0)) 1000000)
            · rw [if_pos c15] at H
              have c15b0 : (t119 == (Int.tmod (wrap64 (a0)) 1000000)) = true := beq_iff_eq.mpr c15
              have c15b1 : (t119 != (Int.tmod (wrap64 (a0)) 1000000)) = false := bne_eq_false_iff_eq.mpr c15
              clear c15
              replace H := Option.bind_eq_some_iff.mp H
              obtain ⟨t120, A160, H⟩ := H
              replace H : (if t120 = (Int.tmod (wrap64 (a0)) 1000000) then ((root_Down.f (wrap64 ((wrap64 ((wrap64 ((Int.tmod (wrap64 (a0)) 1000000) * (Int.tmod (wrap64 (a0)) 1000000))) * (wrap64 (1 + (wrap64 (a1)))))) * (wrap64 (1 + (wrap64 (a1)))))) 10 (wrap64 (1 + (wrap64 (a1))))).bind fun t121 => (if t121 = (wrap64 (10 * (Int.tmod (wrap64 (a0)) 1000000))) then ((root_Floor.f (wrap64 ((wrap64 ((wrap64 ((Int.tmod (wrap64 (a0)) 1000000) * (Int.tmod (wrap64 (a0)) 1000000))) * (wrap64 (1 + (wrap64 (a1)))))) * (wrap64 (1 + (wrap64 (a1))))))).bind fun t122 => (some (t122 == (wrap64 ((Int.tmod (wrap64 (a0)) 1000000) * (wrap64 (1 + (wrap64 (a1))))))))) else (some false))) else (some false)) = some r := H
              have A16 := Aside0.mk A160
              clear A160
              by_cases c17 : t120 = (Int.tmod (wrap64 (a0)) 1000000)
              · rw [if_pos c17] at H
                have c17b0 : (t120 == (Int.tmod (wrap64 (a0)) 1000000)) = true := beq_iff_eq.mpr c17
                have c17b1 : (t120 != (Int.tmod (wrap64 (a0)) 1000000)) = false := bne_eq_false_iff_eq.mpr c17
                clear c17
                replace H := Option.bind_eq_some_iff.mp H
                obtain ⟨t121, A180, H⟩ := H
                replace H : (if t121 = (wrap64 (10 * (Int.tmod (wrap64 (a0)) 1000000))) then ((root_Floor.f (wrap64 ((wrap64 ((wrap64 ((Int.tmod (wrap64 (a0)) 1000000) * (Int.tmod (wrap64 (a0)) 1000000))) * (wrap64 (1 + (wrap64 (a1)))))) * (wrap64 (1 + (wrap64 (a1))))))).bind fun t122 => (some (t122 == (wrap64 ((Int.tmod (wrap64 (a0)) 1000000) * (wrap64 (1 + (wrap64 (a1))))))))) else (some false)) = some r := H
                have A18 := Aside0.mk A180
                clear A180
                by_cases c19 : t121 = (wrap64 (10 * (Int.tmod (wrap64 (a0)) 1000000)))
                · rw [if_pos c19] at H
                  have c19b0 : (t121 == (wrap64 (10 * (Int.tmod (wrap64 (a0)) 1000000)))) = true := beq_iff_eq.mpr c19
                  have c19b1 : (t121 != (wrap64 (10 * (Int.tmod (wrap64 (a0)) 1000000)))) = false := bne_eq_false_iff_eq.mpr c19
                  clear c19
                  replace H := Option.bind_eq_some_iff.mp H
                  obtain ⟨t122, A200, H⟩ := H
                  replace H : (some (t122 == (wrap64 ((Int.tmod (wrap64 (a0)) 1000000) * (wrap64 (1 + (wrap64 (a1)))))))) = some r := H
                  have A20 := Aside0.mk A200
                  clear A200
                  obtain rfl := Option.some.inj H
                  go_wp2_with (first | ((with_reducible refine gate_callee (f := 8) rfl ?_); refine goesL_ (some 31) rfl rfl Try.func8 (by kernel_rfl) rfl #[.int .i64 (wrap64 ((Int.tmod (wrap64 (a0)) 1000000) * (Int.tmod (wrap64 (a0)) 1000000)))] rfl (by (try simp only [List.map_toArray, List.map_cons, List.map_nil]); first | done | rfl | (simp only [List.length_drop, List.length_take]; rfl)) ?_; (with_reducible refine (root_Floor.calls (wrap64 ((Int.tmod (wrap64 (a0)) 1000000) * (Int.tmod (wrap64 (a0)) 1000000))) t117 _ A10.out).mono ?_); rintro e w21 ⟨rfl, hb⟩; refine ⟨_, rfl, ?_⟩; have n0_ := Aside0.mk (below_step (by repeat (first | (with_reducible first | exact HB.out | apply below_alloc | apply pw_below_drewN | apply below_drew1) | exact HB.out)) hb); clear HB; have HB := n0_; clear n0_; (try clear hb); (try clear hb2); (try clear hk); (try clear hi)) | (go_at_call 9; (with_reducible refine (root_Near.calls (wrap64 ((wrap64 ((wrap64 ((Int.tmod (wrap64 (a0)) 1000000) * (Int.tmod (wrap64 (a0)) 1000000))) * (wrap64 (1 + (wrap64 (a1)))))) * (wrap64 (1 + (wrap64 (a1)))))) (wrap64 (1 + (wrap64 (a1)))) t118 _ A12.out).mono ?_); rintro e w22 ⟨rfl, hb⟩; have n0_ := Aside0.mk (below_step (by repeat (first | (with_reducible first | exact HB.out | apply below_alloc | apply pw_below_drewN | apply below_drew1) | exact HB.out)) hb); clear HB; have HB := n0_; clear n0_; (try clear hb); (try clear hb2); (try clear hk); (try clear hi)) | (go_at_call 10; (with_reducible refine (root_Down.calls (wrap64 ((wrap64 ((wrap64 ((Int.tmod (wrap64 (a0)) 1000000) * (Int.tmod (wrap64 (a0)) 1000000))) * (wrap64 (1 + (wrap64 (a1)))))) * (wrap64 (1 + (wrap64 (a1)))))) 1 (wrap64 (1 + (wrap64 (a1)))) t119 _ A14.out).mono ?_); rintro e w23 ⟨rfl, hb⟩; have n0_ := Aside0.mk (below_step (by repeat (first | (with_reducible first | exact HB.out | apply below_alloc | apply pw_below_drewN | apply below_drew1) | exact HB.out)) hb); clear HB; have HB := n0_; clear n0_; (try clear hb); (try clear hb2); (try clear hk); (try clear hi)) | (go_at_call 11; (with_reducible refine (root_Ceil.calls (wrap64 ((wrap64 ((wrap64 ((Int.tmod (wrap64 (a0)) 1000000) * (Int.tmod (wrap64 (a0)) 1000000))) * (wrap64 (1 + (wrap64 (a1)))))) * (wrap64 (1 + (wrap64 (a1)))))) 1 (wrap64 (1 + (wrap64 (a1)))) t120 _ A16.out).mono ?_); rintro e w24 ⟨rfl, hb⟩; have n0_ := Aside0.mk (below_step (by repeat (first | (with_reducible first | exact HB.out | apply below_alloc | apply pw_below_drewN | apply below_drew1) | exact HB.out)) hb); clear HB; have HB := n0_; clear n0_; (try clear hb); (try clear hb2); (try clear hk); (try clear hi)) | (go_at_call 10; (with_reducible refine (root_Down.calls (wrap64 ((wrap64 ((wrap64 ((Int.tmod (wrap64 (a0)) 1000000) * (Int.tmod (wrap64 (a0)) 1000000))) * (wrap64 (1 + (wrap64 (a1)))))) * (wrap64 (1 + (wrap64 (a1)))))) 10 (wrap64 (1 + (wrap64 (a1)))) t121 _ A18.out).mono ?_); rintro e w25 ⟨rfl, hb⟩; have n0_ := Aside0.mk (below_step (by repeat (first | (with_reducible first | exact HB.out | apply below_alloc | apply pw_below_drewN | apply below_drew1) | exact HB.out)) hb); clear HB; have HB := n0_; clear n0_; (try clear hb); (try clear hb2); (try clear hk); (try clear hi)) | (go_at_call 8; (with_reducible refine (root_Floor.calls (wrap64 ((wrap64 ((wrap64 ((Int.tmod (wrap64 (a0)) 1000000) * (Int.tmod (wrap64 (a0)) 1000000))) * (wrap64 (1 + (wrap64 (a1)))))) * (wrap64 (1 + (wrap64 (a1)))))) t122 _ A20.out).mono ?_); rintro e w26 ⟨rfl, hb⟩; have n0_ := Aside0.mk (below_step (by repeat (first | (with_reducible first | exact HB.out | apply below_alloc | apply pw_below_drewN | apply below_drew1) | exact HB.out)) hb); clear HB; have HB := n0_; clear n0_; (try clear hb); (try clear hb2); (try clear hk); (try clear hi)))
                  go_ret
                  exact ⟨by first | rfl | (simp [errW_none, errW_some] <;> rfl) | (simp [*, errW_none, errW_some] <;> rfl), by repeat (first | (with_reducible first | exact HB.out | apply below_alloc | apply pw_below_drewN | apply below_drew1) | exact HB.out)⟩
                · rw [if_neg c19] at H
                  have c19b0 : (t121 == (wrap64 (10 * (Int.tmod (wrap64 (a0)) 1000000)))) = false := beq_eq_false_iff_ne.mpr c19
                  have c19b1 : (t121 != (wrap64 (10 * (Int.tmod (wrap64 (a0)) 1000000)))) = true := bne_iff_ne.mpr c19
                  obtain rfl := Option.some.inj H
                  go_wp2_with (first | ((with_reducible refine gate_callee (f := 8) rfl ?_); refine goesL_ (some 31) rfl rfl Try.func8 (by kernel_rfl) rfl #[.int .i64 (wrap64 ((Int.tmod (wrap64 (a0)) 1000000) * (Int.tmod (wrap64 (a0)) 1000000)))] rfl (by (try simp only [List.map_toArray, List.map_cons, List.map_nil]); first | done | rfl | (simp only [List.length_drop, List.length_take]; rfl)) ?_; (with_reducible refine (root_Floor.calls (wrap64 ((Int.tmod (wrap64 (a0)) 1000000) * (Int.tmod (wrap64 (a0)) 1000000))) t117 _ A10.out).mono ?_); rintro e w27 ⟨rfl, hb⟩; refine ⟨_, rfl, ?_⟩; have n0_ := Aside0.mk (below_step (by repeat (first | (with_reducible first | exact HB.out | apply below_alloc | apply pw_below_drewN | apply below_drew1) | exact HB.out)) hb); clear HB; have HB := n0_; clear n0_; (try clear hb); (try clear hb2); (try clear hk); (try clear hi)) | (go_at_call 9; (with_reducible refine (root_Near.calls (wrap64 ((wrap64 ((wrap64 ((Int.tmod (wrap64 (a0)) 1000000) * (Int.tmod (wrap64 (a0)) 1000000))) * (wrap64 (1 + (wrap64 (a1)))))) * (wrap64 (1 + (wrap64 (a1)))))) (wrap64 (1 + (wrap64 (a1)))) t118 _ A12.out).mono ?_); rintro e w28 ⟨rfl, hb⟩; have n0_ := Aside0.mk (below_step (by repeat (first | (with_reducible first | exact HB.out | apply below_alloc | apply pw_below_drewN | apply below_drew1) | exact HB.out)) hb); clear HB; have HB := n0_; clear n0_; (try clear hb); (try clear hb2); (try clear hk); (try clear hi)) | (go_at_call 10; (with_reducible refine (root_Down.calls (wrap64 ((wrap64 ((wrap64 ((Int.tmod (wrap64 (a0)) 1000000) * (Int.tmod (wrap64 (a0)) 1000000))) * (wrap64 (1 + (wrap64 (a1)))))) * (wrap64 (1 + (wrap64 (a1)))))) 1 (wrap64 (1 + (wrap64 (a1)))) t119 _ A14.out).mono ?_); rintro e w29 ⟨rfl, hb⟩; have n0_ := Aside0.mk (below_step (by repeat (first | (with_reducible first | exact HB.out | apply below_alloc | apply pw_below_drewN | apply below_drew1) | exact HB.out)) hb); clear HB; have HB := n0_; clear n0_; (try clear hb); (try clear hb2); (try clear hk); (try clear hi)) | (go_at_call 11; (with_reducible refine (root_Ceil.calls (wrap64 ((wrap64 ((wrap64 ((Int.tmod (wrap64 (a0)) 1000000) * (Int.tmod (wrap64 (a0)) 1000000))) * (wrap64 (1 + (wrap64 (a1)))))) * (wrap64 (1 + (wrap64 (a1)))))) 1 (wrap64 (1 + (wrap64 (a1)))) t120 _ A16.out).mono ?_); rintro e w30 ⟨rfl, hb⟩; have n0_ := Aside0.mk (below_step (by repeat (first | (with_reducible first | exact HB.out | apply below_alloc | apply pw_below_drewN | apply below_drew1) | exact HB.out)) hb); clear HB; have HB := n0_; clear n0_; (try clear hb); (try clear hb2); (try clear hk); (try clear hi)) | (go_at_call 10; (with_reducible refine (root_Down.calls (wrap64 ((wrap64 ((wrap64 ((Int.tmod (wrap64 (a0)) 1000000) * (Int.tmod (wrap64 (a0)) 1000000))) * (wrap64 (1 + (wrap64 (a1)))))) * (wrap64 (1 + (wrap64 (a1)))))) 10 (wrap64 (1 + (wrap64 (a1)))) t121 _ A18.out).mono ?_); rintro e w31 ⟨rfl, hb⟩; have n0_ := Aside0.mk (below_step (by repeat (first | (with_reducible first | exact HB.out | apply below_alloc | apply pw_below_drewN | apply below_drew1) | exact HB.out)) hb); clear HB; have HB := n0_; clear n0_; (try clear hb); (try clear hb2); (try clear hk); (try clear hi)))
                  go_ret
                  exact ⟨by first | rfl | (simp [errW_none, errW_some] <;> rfl) | (simp [*, errW_none, errW_some] <;> rfl), by repeat (first | (with_reducible first | exact HB.out | apply below_alloc | apply pw_below_drewN | apply below_drew1) | exact HB.out)⟩
              · rw [if_neg c17] at H
                have c17b0 : (t120 == (Int.tmod (wrap64 (a0)) 1000000)) = false := beq_eq_false_iff_ne.mpr c17
                have c17b1 : (t120 != (Int.tmod (wrap64 (a0)) 1000000)) = true := bne_iff_ne.mpr c17
                obtain rfl := Option.some.inj H
                go_wp2_with (first | ((with_reducible refine gate_callee (f := 8) rfl ?_); refine goesL_ (some 31) rfl rfl Try.func8 (by kernel_rfl) rfl #[.int .i64 (wrap64 ((Int.tmod (wrap64 (a0)) 1000000) * (Int.tmod (wrap64 (a0)) 1000000)))] rfl (by (try simp only [List.map_toArray, List.map_cons, List.map_nil]); first | done | rfl | (simp only [List.length_drop, List.length_take]; rfl)) ?_; (with_reducible refine (root_Floor.calls (wrap64 ((Int.tmod (wrap64 (a0)) 1000000) * (Int.tmod (wrap64 (a0)) 1000000))) t117 _ A10.out).mono ?_); rintro e w32 ⟨rfl, hb⟩; refine ⟨_, rfl, ?_⟩; have n0_ := Aside0.mk (below_step (by repeat (first | (with_reducible first | exact HB.out | apply below_alloc | apply pw_below_drewN | apply below_drew1) | exact HB.out)) hb); clear HB; have HB := n0_; clear n0_; (try clear hb); (try clear hb2); (try clear hk); (try clear hi)) | (go_at_call 9; (with_reducible refine (root_Near.calls (wrap64 ((wrap64 ((wrap64 ((Int.tmod (wrap64 (a0)) 1000000) * (Int.tmod (wrap64 (a0)) 1000000))) * (wrap64 (1 + (wrap64 (a1)))))) * (wrap64 (1 + (wrap64 (a1)))))) (wrap64 (1 + (wrap64 (a1)))) t118 _ A12.out).mono ?_); rintro e w33 ⟨rfl, hb⟩; have n0_ := Aside0.mk (below_step (by repeat (first | (with_reducible first | exact HB.out | apply below_alloc | apply pw_below_drewN | apply below_drew1) | exact HB.out)) hb); clear HB; have HB := n0_; clear n0_; (try clear hb); (try clear hb2); (try clear hk); (try clear hi)) | (go_at_call 10; (with_reducible refine (root_Down.calls (wrap64 ((wrap64 ((wrap64 ((Int.tmod (wrap64 (a0)) 1000000) * (Int.tmod (wrap64 (a0)) 1000000))) * (wrap64 (1 + (wrap64 (a1)))))) * (wrap64 (1 + (wrap64 (a1)))))) 1 (wrap64 (1 + (wrap64 (a1)))) t119 _ A14.out).mono ?_); rintro e w34 ⟨rfl, hb⟩; have n0_ := Aside0.mk (below_step (by repeat (first | (with_reducible first | exact HB.out | apply below_alloc | apply pw_below_drewN | apply below_drew1) | exact HB.out)) hb); clear HB; have HB := n0_; clear n0_; (try clear hb); (try clear hb2); (try clear hk); (try clear hi)) | (go_at_call 11; (with_reducible refine (root_Ceil.calls (wrap64 ((wrap64 ((wrap64 ((Int.tmod (wrap64 (a0)) 1000000) * (Int.tmod (wrap64 (a0)) 1000000))) * (wrap64 (1 + (wrap64 (a1)))))) * (wrap64 (1 + (wrap64 (a1)))))) 1 (wrap64 (1 + (wrap64 (a1)))) t120 _ A16.out).mono ?_); rintro e w35 ⟨rfl, hb⟩; have n0_ := Aside0.mk (below_step (by repeat (first | (with_reducible first | exact HB.out | apply below_alloc | apply pw_below_drewN | apply below_drew1) | exact HB.out)) hb); clear HB; have HB := n0_; clear n0_; (try clear hb); (try clear hb2); (try clear hk); (try clear hi)))
                go_ret
                exact ⟨by first | rfl | (simp [errW_none, errW_some] <;> rfl) | (simp [*, errW_none, errW_some] <;> rfl), by repeat (first | (with_reducible first | exact HB.out | apply below_alloc | apply pw_below_drewN | apply below_drew1) | exact HB.out)⟩
            · rw [if_neg c15] at H
              have c15b0 : (t119 == (Int.tmod (wrap64 (a0)) 1000000)) = false := beq_eq_false_iff_ne.mpr c15
              have c15b1 : (t119 != (Int.tmod (wrap64 (a0)) 1000000)) = true := bne_iff_ne.mpr c15
              obtain rfl := Option.some.inj H
              go_wp2_with (first | ((with_reducible refine gate_callee (f := 8) rfl ?_); refine goesL_ (some 31) rfl rfl Try.func8 (by kernel_rfl) rfl #[.int .i64 (wrap64 ((Int.tmod (wrap64 (a0)) 1000000) * (Int.tmod (wrap64 (a0)) 1000000)))] rfl (by (try simp only [List.map_toArray, List.map_cons, List.map_nil]); first | done | rfl | (simp only [List.length_drop, List.length_take]; rfl)) ?_; (with_reducible refine (root_Floor.calls (wrap64 ((Int.tmod (wrap64 (a0)) 1000000) * (Int.tmod (wrap64 (a0)) 1000000))) t117 _ A10.out).mono ?_); rintro e w36 ⟨rfl, hb⟩; refine ⟨_, rfl, ?_⟩; have n0_ := Aside0.mk (below_step (by repeat (first | (with_reducible first | exact HB.out | apply below_alloc | apply pw_below_drewN | apply below_drew1) | exact HB.out)) hb); clear HB; have HB := n0_; clear n0_; (try clear hb); (try clear hb2); (try clear hk); (try clear hi)) | (go_at_call 9; (with_reducible refine (root_Near.calls (wrap64 ((wrap64 ((wrap64 ((Int.tmod (wrap64 (a0)) 1000000) * (Int.tmod (wrap64 (a0)) 1000000))) * (wrap64 (1 + (wrap64 (a1)))))) * (wrap64 (1 + (wrap64 (a1)))))) (wrap64 (1 + (wrap64 (a1)))) t118 _ A12.out).mono ?_); rintro e w37 ⟨rfl, hb⟩; have n0_ := Aside0.mk (below_step (by repeat (first | (with_reducible first | exact HB.out | apply below_alloc | apply pw_below_drewN | apply below_drew1) | exact HB.out)) hb); clear HB; have HB := n0_; clear n0_; (try clear hb); (try clear hb2); (try clear hk); (try clear hi)) | (go_at_call 10; (with_reducible refine (root_Down.calls (wrap64 ((wrap64 ((wrap64 ((Int.tmod (wrap64 (a0)) 1000000) * (Int.tmod (wrap64 (a0)) 1000000))) * (wrap64 (1 + (wrap64 (a1)))))) * (wrap64 (1 + (wrap64 (a1)))))) 1 (wrap64 (1 + (wrap64 (a1)))) t119 _ A14.out).mono ?_); rintro e w38 ⟨rfl, hb⟩; have n0_ := Aside0.mk (below_step (by repeat (first | (with_reducible first | exact HB.out | apply below_alloc | apply pw_below_drewN | apply below_drew1) | exact HB.out)) hb); clear HB; have HB := n0_; clear n0_; (try clear hb); (try clear hb2); (try clear hk); (try clear hi)))
              go_ret
              exact ⟨by first | rfl | (simp [errW_none, errW_some] <;> rfl) | (simp [*, errW_none, errW_some] <;> rfl), by repeat (first | (with_reducible first | exact HB.out | apply below_alloc | apply pw_below_drewN | apply below_drew1) | exact HB.out)⟩
          · rw [if_neg c13] at H
            have c13b0 : (t118 == (Int.tmod (wrap64 (a0)) 1000000)) = false := beq_eq_false_iff_ne.mpr c13
            have c13b1 : (t118 != (Int.tmod (wrap64 (a0)) 1000000)) = true := bne_iff_ne.mpr c13
            obtain rfl := Option.some.inj H
            go_wp2_with (first | ((with_reducible refine gate_callee (f := 8) rfl ?_); refine goesL_ (some 31) rfl rfl Try.func8 (by kernel_rfl) rfl #[.int .i64 (wrap64 ((Int.tmod (wrap64 (a0)) 1000000) * (Int.tmod (wrap64 (a0)) 1000000)))] rfl (by (try simp only [List.map_toArray, List.map_cons, List.map_nil]); first | done | rfl | (simp only [List.length_drop, List.length_take]; rfl)) ?_; (with_reducible refine (root_Floor.calls (wrap64 ((Int.tmod (wrap64 (a0)) 1000000) * (Int.tmod (wrap64 (a0)) 1000000))) t117 _ A10.out).mono ?_); rintro e w39 ⟨rfl, hb⟩; refine ⟨_, rfl, ?_⟩; have n0_ := Aside0.mk (below_step (by repeat (first | (with_reducible first | exact HB.out | apply below_alloc | apply pw_below_drewN | apply below_drew1) | exact HB.out)) hb); clear HB; have HB := n0_; clear n0_; (try clear hb); (try clear hb2); (try clear hk); (try clear hi)) | (go_at_call 9; (with_reducible refine (root_Near.calls (wrap64 ((wrap64 ((wrap64 ((Int.tmod (wrap64 (a0)) 1000000) * (Int.tmod (wrap64 (a0)) 1000000))) * (wrap64 (1 + (wrap64 (a1)))))) * (wrap64 (1 + (wrap64 (a1)))))) (wrap64 (1 + (wrap64 (a1)))) t118 _ A12.out).mono ?_); rintro e w40 ⟨rfl, hb⟩; have n0_ := Aside0.mk (below_step (by repeat (first | (with_reducible first | exact HB.out | apply below_alloc | apply pw_below_drewN | apply below_drew1) | exact HB.out)) hb); clear HB; have HB := n0_; clear n0_; (try clear hb); (try clear hb2); (try clear hk); (try clear hi)))
            go_ret
            exact ⟨by first | rfl | (simp [errW_none, errW_some] <;> rfl) | (simp [*, errW_none, errW_some] <;> rfl), by repeat (first | (with_reducible first | exact HB.out | apply below_alloc | apply pw_below_drewN | apply below_drew1) | exact HB.out)⟩
        · rw [if_neg c11] at H
          have c11b0 : (t117 == (Int.tmod (wrap64 (a0)) 1000000)) = false := beq_eq_false_iff_ne.mpr c11
          have c11b1 : (t117 != (Int.tmod (wrap64 (a0)) 1000000)) = true := bne_iff_ne.mpr c11
          obtain rfl := Option.some.inj H
          go_wp2_with (first | ((with_reducible refine gate_callee (f := 8) rfl ?_); refine goesL_ (some 31) rfl rfl Try.func8 (by kernel_rfl) rfl #[.int .i64 (wrap64 ((Int.tmod (wrap64 (a0)) 1000000) * (Int.tmod (wrap64 (a0)) 1000000)))] rfl (by (try simp only [List.map_toArray, List.map_cons, List.map_nil]); first | done | rfl | (simp only [List.length_drop, List.length_take]; rfl)) ?_; (with_reducible refine (root_Floor.calls (wrap64 ((Int.tmod (wrap64 (a0)) 1000000) * (Int.tmod (wrap64 (a0)) 1000000))) t117 _ A10.out).mono ?_); rintro e w41 ⟨rfl, hb⟩; refine ⟨_, rfl, ?_⟩; have n0_ := Aside0.mk (below_step (by repeat (first | (with_reducible first | exact HB.out | apply below_alloc | apply pw_below_drewN | apply below_drew1) | exact HB.out)) hb); clear HB; have HB := n0_; clear n0_; (try clear hb); (try clear hb2); (try clear hk); (try clear hi)))
          go_ret
          exact ⟨by first | rfl | (simp [errW_none, errW_some] <;> rfl) | (simp [*, errW_none, errW_some] <;> rfl), by repeat (first | (with_reducible first | exact HB.out | apply below_alloc | apply pw_below_drewN | apply below_drew1) | exact HB.out)⟩

/-- THE ONE PURE STATEMENT of entrepotlaw05_RootSquares: yours. -/
def entrepotlaw05_RootSquares.Pure : Prop := ∀ (a0 : Int) (a1 : Int), (Lit.int .u32 a0).wf = true → (Lit.int .u8 a1).wf = true → ∃ k, entrepotlaw05_RootSquares.f k a0 a1 = some true
theorem entrepotlaw05_RootSquares.walk (P : entrepotlaw05_RootSquares.Pure) (a0 : Int) (a1 : Int) (w : World) (w0 : (Lit.int .u32 a0).wf = true) (w1 : (Lit.int .u8 a1).wf = true) :
    Calls Try.prog 3 #[.int .u32 a0, .int .u8 a1] w fun e w' => e = .returned (.bool true) ∧ Below w.heap.size w w' := by
  obtain ⟨k, h⟩ := P a0 a1 w0 w1
  refine (entrepotlaw05_RootSquares.calls k a0 a1 true w h).mono ?_
  rintro e w' ⟨rfl, hd⟩
  exact ⟨rfl, hd⟩

end Go.Proofs.Ytnkhkjdmdjldaaa.P
