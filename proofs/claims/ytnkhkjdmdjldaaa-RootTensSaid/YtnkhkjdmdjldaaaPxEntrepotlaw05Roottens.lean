/- Written by a program of this session, after the kit's print: Lean functions for Go functions, and the proof that the machine comes to their answers. -/
import Derived.Test.YtnkhkjdmdjldaaaPx0
import Derived.Test.YtnkhkjdmdjldaaaPxEntrepotlaw05Shown
import Derived.Test.YtnkhkjdmdjldaaaPxRootCeil
import Derived.Test.YtnkhkjdmdjldaaaPxRootDown
import Derived.Test.YtnkhkjdmdjldaaaPxRootNear
namespace Go.Proofs.Ytnkhkjdmdjldaaa.P
open Go.RowKit Go.Proofs.YtnkhkjdmdjldaaaW.PrintWords Go.Proofs.YtnkhkjdmdjldaaaW.PrintLast Go.Proofs.YtnkhkjdmdjldaaaW.PrintMore
attribute [local go_sem] max2_int min2_int max_two min_two max_three min_three max_four min_four   -- for this text's walks alone
set_option linter.unusedVariables false
set_option linter.unusedSimpArgs false

/-! ### entrepotlaw05_RootTens: function 6 -/
def entrepotlaw05_RootTens.j0 : Nat → Int → Int → Bool → Option (Bool)
  | 0, _, _, _ => none
  | k + 1, x0, x5, x18 => if x18 = true then ((entrepotlaw05_shown.f).bind fun t134 => (some t134)) else ((root_Near.f (wrap64 (100 * x0)) (wrap64 (10 * x5))).bind fun t135 => ((root_Near.f x0 x5).bind fun t136 => (if t135 = t136 then ((root_Down.f (wrap64 (100 * x0)) 10 (wrap64 (10 * x5))).bind fun t137 => ((root_Down.f x0 10 x5).bind fun t138 => (if t137 = t138 then ((root_Ceil.f (wrap64 (100 * x0)) 10 (wrap64 (10 * x5))).bind fun t139 => ((root_Ceil.f x0 10 x5).bind fun t140 => (if t139 = t140 then ((root_Down.f x0 10 (wrap64 (10 * x5))).bind fun t141 => ((root_Down.f x0 1 x5).bind fun t142 => (some (t141 == t142)))) else (some false)))) else (some false)))) else (some false))))
def entrepotlaw05_RootTens.f (k : Nat) (a0 : Int) (a1 : Int) : Option (Bool) := if a0 < 0 then (entrepotlaw05_RootTens.j0 k a0 (wrap64 (1 + (wrap64 (a1)))) true) else (if a0 > 800000000000000 then (entrepotlaw05_RootTens.j0 k a0 (wrap64 (1 + (wrap64 (a1)))) true) else ((entrepotlaw05_shown.f).bind fun t133 => (entrepotlaw05_RootTens.j0 k a0 (wrap64 (1 + (wrap64 (a1)))) (!t133))))
theorem entrepotlaw05_RootTens.mono_l : ∀ k, (∀ y0 y1 y2, LeO (entrepotlaw05_RootTens.j0 k y0 y1 y2) (entrepotlaw05_RootTens.j0 (k + 1) y0 y1 y2))
  | 0 => fun _ _ _ r h => by simp [entrepotlaw05_RootTens.j0] at h
  | k + 1 => by
    have ih0 := entrepotlaw05_RootTens.mono_l k
    · intro y0 y1 y2
      unfold entrepotlaw05_RootTens.j0
      repeat' first
      | (with_reducible exact ih0 _ _ _)
      | (with_reducible exact LeO.refl _)
      | (with_reducible exact LeO.none _)
      | (with_reducible refine LeO.ite ?_ ?_)
      | (with_reducible refine LeO.bind ?_ (fun _ => ?_))
      | exact ih0 _ _ _
      | exact LeO.none _
      | refine LeO.ite ?_ ?_
      | refine LeO.bind ?_ (fun _ => ?_)
theorem entrepotlaw05_RootTens.mono : ∀ a0 a1 k, LeO (entrepotlaw05_RootTens.f k a0 a1) (entrepotlaw05_RootTens.f (k + 1) a0 a1) := by
  intro a0 a1 k
  have ih0 := entrepotlaw05_RootTens.mono_l k
  unfold entrepotlaw05_RootTens.f
  repeat' first
      | (with_reducible exact ih0 _ _ _)
      | (with_reducible exact LeO.refl _)
      | (with_reducible exact LeO.none _)
      | (with_reducible refine LeO.ite ?_ ?_)
      | (with_reducible refine LeO.bind ?_ (fun _ => ?_))
      | exact ih0 _ _ _
      | exact LeO.none _
      | refine LeO.ite ?_ ?_
      | refine LeO.bind ?_ (fun _ => ?_)
set_option maxHeartbeats 8000000 in
set_option maxRecDepth 100000 in
theorem entrepotlaw05_RootTens.calls (k : Nat) (a0 : Int) (a1 : Int) (r : Bool) (w : World) (h : entrepotlaw05_RootTens.f k a0 a1 = some r) :
    Calls Try.prog 6 #[.int .i64 a0, .int .u16 a1] w fun e w' => e = .returned (.bool r) ∧ Below w.heap.size w w' := by
  have HB := Aside0.mk (Below.refl w.heap.size w)
  have H : (if a0 < 0 then (entrepotlaw05_RootTens.j0 k a0 (wrap64 (1 + (wrap64 (a1)))) true) else (if a0 > 800000000000000 then (entrepotlaw05_RootTens.j0 k a0 (wrap64 (1 + (wrap64 (a1)))) true) else ((entrepotlaw05_shown.f).bind fun t133 => (entrepotlaw05_RootTens.j0 k a0 (wrap64 (1 + (wrap64 (a1)))) (!t133))))) = some r := h
  clear h
  have HC3 := Aside0.mk H
  clear H
  go_enter Try.func6, Try.ntmps6
  go_upto_region 2 with (fail)
  go_cut [18] (fun v18 wc => ∃ (kq : Nat) (x18_2 : Bool), v18 = .bool x18_2 ∧ Aside0 (entrepotlaw05_RootTens.j0 kq a0 (wrap64 (1 + (wrap64 (a1)))) x18_2 = some r) ∧ Aside0 (kq ≤ k) ∧ Aside0 (Below w.heap.size w wc))
  case first =>
    have H := HC3.out
    clear HC3
    by_cases c4 : a0 < 0
    · rw [if_pos c4] at H
      have c4b0 : decide (a0 < 0) = true := decide_eq_true c4
      clear c4
      (first | rw [c4b0] | (simp only [i64_w, i32_w]; rw [c4b0]) | skip)
      have H' := Aside0.mk H
      clear H
      go_wp2
      go_meet
      case rel => exact ⟨_, (true), (by first | rfl | (simp; done) | (simp [*]; done)), H', ⟨by first | omega | exact Nat.le_refl _⟩, ⟨by repeat (first | (with_reducible first | exact HB.out | apply below_alloc | apply pw_below_drewN | apply below_drew1) | exact HB.out)⟩⟩
    · rw [if_neg c4] at H
      have c4b0 : decide (a0 < 0) = false := decide_eq_false c4
      clear c4
      (first | rw [c4b0] | (simp only [i64_w, i32_w]; rw [c4b0]) | skip)
      by_cases c5 : a0 > 800000000000000
      · rw [if_pos c5] at H
        have c5b0 : decide (800000000000000 < a0) = true := decide_eq_true c5
        clear c5
        have H' := Aside0.mk H
        clear H
        go_wp2
        go_meet
        case rel => exact ⟨_, (true), (by first | rfl | (simp; done) | (simp [*]; done)), H', ⟨by first | omega | exact Nat.le_refl _⟩, ⟨by repeat (first | (with_reducible first | exact HB.out | apply below_alloc | apply pw_below_drewN | apply below_drew1) | exact HB.out)⟩⟩
      · rw [if_neg c5] at H
        have c5b0 : decide (800000000000000 < a0) = false := decide_eq_false c5
        clear c5
        replace H := Option.bind_eq_some_iff.mp H
        obtain ⟨t133, A60, H⟩ := H
        replace H : (entrepotlaw05_RootTens.j0 k a0 (wrap64 (1 + (wrap64 (a1)))) (!t133)) = some r := H
        have A6 := Aside0.mk A60
        clear A60
        have H' := Aside0.mk H
        clear H
        go_wp2_with (first | (go_at_call 7; (with_reducible refine (entrepotlaw05_shown.calls  t133 _ A6.out).mono ?_); rintro e w7 ⟨rfl, hb⟩; have n0_ := Aside0.mk (below_step (by repeat (first | (with_reducible first | exact HB.out | apply below_alloc | apply pw_below_drewN | apply below_drew1) | exact HB.out)) hb); clear HB; have HB := n0_; clear n0_; (try clear hb); (try clear hb2); (try clear hk); (try clear hi)))
        go_meet
        case rel => exact ⟨_, (!t133), (by first | rfl | (simp; done) | (simp [*]; done)), H', ⟨by first | omega | exact Nat.le_refl _⟩, ⟨by repeat (first | (with_reducible first | exact HB.out | apply below_alloc | apply pw_below_drewN | apply below_drew1) | exact HB.out)⟩⟩
  case rest =>
    clear HC3
    try clear p2
    try clear c4
    try clear c4b0
    try clear c5
    try clear c5b0
    try clear c6
    try clear p6
    obtain ⟨kq, x18_2, rfl, HA, HJ2, HB⟩ := hcut
    cases kq with
    | zero => exact absurd HA.out (by simp [entrepotlaw05_RootTens.j0])
    | succ kj2 =>
      have H := HA.out
      clear HA
      simp only [entrepotlaw05_RootTens.j0] at H
      by_cases c8 : x18_2 = true
      · subst c8
        have H1 : ((entrepotlaw05_shown.f).bind fun t134 => (some t134)) = some r := by rw [if_pos rfl] at H; exact H
        clear H
        have H := H1
        clear H1
        replace H := Option.bind_eq_some_iff.mp H
        obtain ⟨t134, A90, H⟩ := H
        replace H : (some t134) = some r := H
        have A9 := Aside0.mk A90
        clear A90
        obtain rfl := Option.some.inj H
        go_wp2_with (first | ((with_reducible refine gate_callee (f := 7) rfl ?_); refine goesL_ (some 19) rfl rfl Try.func7 (by kernel_rfl) rfl #[] rfl (by (try simp only [List.map_toArray, List.map_cons, List.map_nil]); first | done | rfl | (simp only [List.length_drop, List.length_take]; rfl)) ?_; (with_reducible refine (entrepotlaw05_shown.calls  t134 _ A9.out).mono ?_); rintro e w10 ⟨rfl, hb⟩; refine ⟨_, rfl, ?_⟩; have n0_ := Aside0.mk (below_step (by repeat (first | (with_reducible first | exact HB.out | apply below_alloc | apply pw_below_drewN | apply below_drew1) | exact HB.out)) hb); clear HB; have HB := n0_; clear n0_; (try clear hb); (try clear hb2); (try clear hk); (try clear hi)))
        go_ret
        exact ⟨by first | rfl | (simp [errW_none, errW_some] <;> rfl) | (simp [*, errW_none, errW_some] <;> rfl), by repeat (first | (with_reducible first | exact HB.out | apply below_alloc | apply pw_below_drewN | apply below_drew1) | exact HB.out)⟩
      · replace c8 := Bool.eq_false_iff.mpr c8
        subst c8
        have H1 : ((root_Near.f (wrap64 (100 * a0)) (wrap64 (10 * (wrap64 (1 + (wrap64 (a1))))))).bind fun t135 => ((root_Near.f a0 (wrap64 (1 + (wrap64 (a1))))).bind fun t136 => (if t135 = t136 then ((root_Down.f (wrap64 (100 * a0)) 10 (wrap64 (10 * (wrap64 (1 + (wrap64 (a1))))))).bind fun t137 => ((root_Down.f a0 10 (wrap64 (1 + (wrap64 (a1))))).bind fun t138 => (if t137 = t138 then ((root_Ceil.f (wrap64 (100 * a0)) 10 (wrap64 (10 * (wrap64 (1 + (wrap64 (a1))))))).bind fun t139 => ((root_Ceil.f a0 10 (wrap64 (1 + (wrap64 (a1))))).bind fun t140 => (if t139 = t140 then ((root_Down.f a0 10 (wrap64 (10 * (wrap64 (1 + (wrap64 (a1))))))).bind fun t141 => ((root_Down.f a0 1 (wrap64 (1 + (wrap64 (a1))))).bind fun t142 => (some (t141 == t142)))) else (some false)))) else (some false)))) else (some false)))) = some r := by rw [if_neg (show ¬ (false = true) by decide)] at H; exact H
        clear H
        have H := H1
        clear H1
        replace H := Option.bind_eq_some_iff.mp H
        obtain ⟨t135, A110, H⟩ := H
        replace H : ((root_Near.f a0 (wrap64 (1 + (wrap64 (a1))))).bind fun t136 => (if t135 = t136 then ((root_Down.f (wrap64 (100 * a0)) 10 (wrap64 (10 * (wrap64 (1 + (wrap64 (a1))))))).bind fun t137 => ((root_Down.f a0 10 (wrap64 (1 + (wrap64 (a1))))).bind fun t138 => (if t137 = t138 then ((root_Ceil.f (wrap64 (100 * a0)) 10 (wrap64 (10 * (wrap64 (1 + (wrap64 (a1))))))).bind fun t139 => ((root_Ceil.f a0 10 (wrap64 (1 + (wrap64 (a1))))).bind fun t140 => (if t139 = t140 then ((root_Down.f a0 10 (wrap64 (10 * (wrap64 (1 + (wrap64 (a1))))))).bind fun t141 => ((root_Down.f a0 1 (wrap64 (1 + (wrap64 (a1))))).bind fun t142 => (some (t141 == t142)))) else (some false)))) else (some false)))) else (some false))) = some r := H
        have A11 := Aside0.mk A110
        clear A110
        replace H := Option.bind_eq_some_iff.mp H
        obtain ⟨t136, A120, H⟩ := H
        replace H : (if t135 = t136 then ((root_Down.f (wrap64 (100 * a0)) 10 (wrap64 (10 * (wrap64 (1 + (wrap64 (a1))))))).bind fun t137 => ((root_Down.f a0 10 (wrap64 (1 + (wrap64 (a1))))).bind fun t138 => (if t137 = t138 then ((root_Ceil.f (wrap64 (100 * a0)) 10 (wrap64 (10 * (wrap64 (1 + (wrap64 (a1))))))).bind fun t139 => ((root_Ceil.f a0 10 (wrap64 (1 + (wrap64 (a1))))).bind fun t140 => (if t139 = t140 then ((root_Down.f a0 10 (wrap64 (10 * (wrap64 (1 + (wrap64 (a1))))))).bind fun t141 => ((root_Down.f a0 1 (wrap64 (1 + (wrap64 (a1))))).bind fun t142 => (some (t141 == t142)))) else (some false)))) else (some false)))) else (some false)) = some r := H
        have A12 := Aside0.mk A120
        clear A120
        by_cases c13 : t135 = t136
        · rw [if_pos c13] at H
          have c13b0 : (t135 == t136) = true := beq_iff_eq.mpr c13
          have c13b1 : (t135 != t136) = false := bne_eq_false_iff_eq.mpr c13
          clear c13
          replace H := Option.bind_eq_some_iff.mp H
          obtain ⟨t137, A140, H⟩ := H
          replace H : ((root_Down.f a0 10 (wrap64 (1 + (wrap64 (a1))))).bind fun t138 => (if t137 = t138 then ((root_Ceil.f (wrap64 (100 * a0)) 10 (wrap64 (10 * (wrap64 (1 + (wrap64 (a1))))))).bind fun t139 => ((root_Ceil.f a0 10 (wrap64 (1 + (wrap64 (a1))))).bind fun t140 => (if t139 = t140 then ((root_Down.f a0 10 (wrap64 (10 * (wrap64 (1 + (wrap64 (a1))))))).bind fun t141 => ((root_Down.f a0 1 (wrap64 (1 + (wrap64 (a1))))).bind fun t142 => (some (t141 == t142)))) else (some false)))) else (some false))) = some r := H
          have A14 := Aside0.mk A140
          clear A140
          replace H := Option.bind_eq_some_iff.mp H
          obtain ⟨t138, A150, H⟩ := H
          replace H : (if t137 = t138 then ((root_Ceil.f (wrap64 (100 * a0)) 10 (wrap64 (10 * (wrap64 (1 + (wrap64 (a1))))))).bind fun t139 => ((root_Ceil.f a0 10 (wrap64 (1 + (wrap64 (a1))))).bind fun t140 => (if t139 = t140 then ((root_Down.f a0 10 (wrap64 (10 * (wrap64 (1 + (wrap64 (a1))))))).bind fun t141 => ((root_Down.f a0 1 (wrap64 (1 + (wrap64 (a1))))).bind fun t142 => (some (t141 == t142)))) else (some false)))) else (some false)) = some r := H
          have A15 := Aside0.mk A150
          clear A150
          by_cases c16 : t137 = t138
          · rw [if_pos c16] at H
            have c16b0 : (t137 == t138) = true := beq_iff_eq.mpr c16
            have c16b1 : (t137 != t138) = false := bne_eq_false_iff_eq.mpr c16
            clear c16
            replace H := Option.bind_eq_some_iff.mp H
            obtain ⟨t139, A170, H⟩ := H
            replace H : ((root_Ceil.f a0 10 (wrap64 (1 + (wrap64 (a1))))).bind fun t140 => (if t139 = t140 then ((root_Down.f a0 10 (wrap64 (10 * (wrap64 (1 + (wrap64 (a1))))))).bind fun t141 => ((root_Down.f a0 1 (wrap64 (1 + (wrap64 (a1))))).bind fun t142 => (some (t141 == t142)))) else (some false))) = some r := H
            have A17 := Aside0.mk A170
            clear A170
            replace H := Option.bind_eq_some_iff.mp H
            obtain ⟨t140, A180, H⟩ := H
            replace H : (if t139 = t140 then ((root_Down.f a0 10 (wrap64 (10 * (wrap64 (1 + (wrap64 (a1))))))).bind fun t141 => ((root_Down.f a0 1 (wrap64 (1 + (wrap64 (a1))))).bind fun t142 => (some (t141 == t142)))) else (some false)) = some r := H
            have A18 := Aside0.mk A180
            clear A180
            by_cases c19 : t139 = t140
            · rw [if_pos c19] at H
              have c19b0 : (t139 == t140) = true := beq_iff_eq.mpr c19
              have c19b1 : (t139 != t140) = false := bne_eq_false_iff_eq.mpr c19
              clear c19
              replace H := Option.bind_eq_some_iff.mp H
              obtain ⟨t141, A200, H⟩ := H
              replace H : ((root_Down.f a0 1 (wrap64 (1 + (wrap64 (a1))))).bind fun t142 => (some (t141 == t142))) = some r := H
              have A20 := Aside0.mk A200
              clear A200
              replace H := Option.bind_eq_some_iff.mp H
              obtain ⟨t142, A210, H⟩ := H
              replace H : (some (t141 == t142)) = some r := H
              have A21 := Aside0.mk A210
              clear A210
              obtain rfl := Option.some.inj H
              go_wp2_with (first | ((with_reducible refine gate_callee (f := 9) rfl ?_); refine goesL_ (some 24) rfl rfl Try.func9 (by kernel_rfl) rfl #[.int .i64 (wrap64 (100 * a0)), .int .i64 (wrap64 (10 * (wrap64 (1 + (wrap64 (a1))))))] rfl (by (try simp only [List.map_toArray, List.map_cons, List.map_nil]); first | done | rfl | (simp only [List.length_drop, List.length_take]; rfl)) ?_; (with_reducible refine (root_Near.calls (wrap64 (100 * a0)) (wrap64 (10 * (wrap64 (1 + (wrap64 (a1)))))) t135 _ A11.out).mono ?_); rintro e w22 ⟨rfl, hb⟩; refine ⟨_, rfl, ?_⟩; have n0_ := Aside0.mk (below_step (by repeat (first | (with_reducible first | exact HB.out | apply below_alloc | apply pw_below_drewN | apply below_drew1) | exact HB.out)) hb); clear HB; have HB := n0_; clear n0_; (try clear hb); (try clear hb2); (try clear hk); (try clear hi)) | ((with_reducible refine gate_callee (f := 9) rfl ?_); refine goesL_ (some 27) rfl rfl Try.func9 (by kernel_rfl) rfl #[.int .i64 a0, .int .i64 (wrap64 (1 + (wrap64 (a1))))] rfl (by (try simp only [List.map_toArray, List.map_cons, List.map_nil]); first | done | rfl | (simp only [List.length_drop, List.length_take]; rfl)) ?_; (with_reducible refine (root_Near.calls a0 (wrap64 (1 + (wrap64 (a1)))) t136 _ A12.out).mono ?_); rintro e w23 ⟨rfl, hb⟩; refine ⟨_, rfl, ?_⟩; have n0_ := Aside0.mk (below_step (by repeat (first | (with_reducible first | exact HB.out | apply below_alloc | apply pw_below_drewN | apply below_drew1) | exact HB.out)) hb); clear HB; have HB := n0_; clear n0_; (try clear hb); (try clear hb2); (try clear hk); (try clear hi)) | (go_at_call 10; (with_reducible refine (root_Down.calls (wrap64 (100 * a0)) 10 (wrap64 (10 * (wrap64 (1 + (wrap64 (a1)))))) t137 _ A14.out).mono ?_); rintro e w24 ⟨rfl, hb⟩; have n0_ := Aside0.mk (below_step (by repeat (first | (with_reducible first | exact HB.out | apply below_alloc | apply pw_below_drewN | apply below_drew1) | exact HB.out)) hb); clear HB; have HB := n0_; clear n0_; (try clear hb); (try clear hb2); (try clear hk); (try clear hi)) | (go_at_call 10; (with_reducible refine (root_Down.calls a0 10 (wrap64 (1 + (wrap64 (a1)))) t138 _ A15.out).mono ?_); rintro e w25 ⟨rfl, hb⟩; have n0_ := Aside0.mk (below_step (by repeat (first | (with_reducible first | exact HB.out | apply below_alloc | apply pw_below_drewN | apply below_drew1) | exact HB.out)) hb); clear HB; have HB := n0_; clear n0_; (try clear hb); (try clear hb2); (try clear hk); (try clear hi)) | (go_at_call 11; (with_reducible refine (root_Ceil.calls (wrap64 (100 * a0)) 10 (wrap64 (10 * (wrap64 (1 + (wrap64 (a1)))))) t139 _ A17.out).mono ?_); rintro e w26 ⟨rfl, hb⟩; have n0_ := Aside0.mk (below_step (by repeat (first | (with_reducible first | exact HB.out | apply below_alloc | apply pw_below_drewN | apply below_drew1) | exact HB.out)) hb); clear HB; have HB := n0_; clear n0_; (try clear hb); (try clear hb2); (try clear hk); (try clear hi)) | (go_at_call 11; (with_reducible refine (root_Ceil.calls a0 10 (wrap64 (1 + (wrap64 (a1)))) t140 _ A18.out).mono ?_); rintro e w27 ⟨rfl, hb⟩; have n0_ := Aside0.mk (below_step (by repeat (first | (with_reducible first | exact HB.out | apply below_alloc | apply pw_below_drewN | apply below_drew1) | exact HB.out)) hb); clear HB; have HB := n0_; clear n0_; (try clear hb); (try clear hb2); (try clear hk); (try clear hi)) | (go_at_call 10; (with_reducible refine (root_Down.calls a0 10 (wrap64 (10 * (wrap64 (1 + (wrap64 (a1)))))) t141 _ A20.out).mono ?_); rintro e w28 ⟨rfl, hb⟩; have n0_ := Aside0.mk (below_step (by repeat (first | (with_reducible first | exact HB.out | apply below_alloc | apply pw_below_drewN | apply below_drew1) | exact HB.out)) hb); clear HB; have HB := n0_; clear n0_; (try clear hb); (try clear hb2); (try clear hk); (try clear hi)) | (go_at_call 10; (with_reducible refine (root_Down.calls a0 1 (wrap64 (1 + (wrap64 (a1)))) t142 _ A21.out).mono ?_); rintro e w29 ⟨rfl, hb⟩; have n0_ := Aside0.mk (below_step (by repeat (first | (with_reducible first | exact HB.out | apply below_alloc | apply pw_below_drewN | apply below_drew1) | exact HB.out)) hb); clear HB; have HB := n0_; clear n0_; (try clear hb); (try clear hb2); (try clear hk); (try clear hi)))
              go_ret
              exact ⟨by first | rfl | (simp [errW_none, errW_some] <;> rfl) | (simp [*, errW_none, errW_some] <;> rfl), by repeat (first | (with_reducible first | exact HB.out | apply below_alloc | apply pw_below_drewN | apply below_drew1) | exact HB.out)⟩
            · rw [if_neg c19] at H
              have c19b0 : (t139 == t140) = false := beq_eq_false_iff_ne.mpr c19
              have c19b1 : (t139 != t140) = true := bne_iff_ne.mpr c19
              obtain rfl := Option.some.inj H
              go_wp2_with (first | ((with_reducible refine gate_callee (f := 9) rfl ?_); refine goesL_ (some 24) rfl rfl Try.func9 (by kernel_rfl) rfl #[.int .i64 (wrap64 (100 * a0)), .int .i64 (wrap64 (10 * (wrap64 (1 + (wrap64 (a1))))))] rfl (by (try simp only [List.map_toArray, List.map_cons, List.map_nil]); first | done | rfl | (simp only [List.length_drop, List.length_take]; rfl)) ?_; (with_reducible refine (root_Near.calls (wrap64 (100 * a0)) (wrap64 (10 * (wrap64 (1 + (wrap64 (a1)))))) t135 _ A11.out).mono ?_); rintro e w30 ⟨rfl, hb⟩; refine ⟨_, rfl, ?_⟩; have n0_ := Aside0.mk (below_step (by repeat (first | (with_reducible first | exact HB.out | apply below_alloc | apply pw_below_drewN | apply below_drew1) | exact HB.out)) hb); clear HB; have HB := n0_; clear n0_; (try clear hb); (try clear hb2); (try clear hk); (try clear hi)) | ((with_reducible refine gate_callee (f := 9) rfl ?_); refine goesL_ (some 27) rfl rfl Try.func9 (by kernel_rfl) rfl #[.int .i64 a0, .int .i64 (wrap64 (1 + (wrap64 (a1))))] rfl (by (try simp only [List.map_toArray, List.map_cons, List.map_nil]); first | done | rfl | (simp only [List.length_drop, List.length_take]; rfl)) ?_; (with_reducible refine (root_Near.calls a0 (wrap64 (1 + (wrap64 (a1)))) t136 _ A12.out).mono ?_); rintro e w31 ⟨rfl, hb⟩; refine ⟨_, rfl, ?_⟩; have n0_ := Aside0.mk (below_step (by repeat (first | (with_reducible first | exact HB.out | apply below_alloc | apply pw_below_drewN | apply below_drew1) | exact HB.out)) hb); clear HB; have HB := n0_; clear n0_; (try clear hb); (try clear hb2); (try clear hk); (try clear hi)) | (go_at_call 10; (with_reducible refine (root_Down.calls (wrap64 (100 * a0)) 10 (wrap64 (10 * (wrap64 (1 + (wrap64 (a1)))))) t137 _ A14.out).mono ?_); rintro e w32 ⟨rfl, hb⟩; have n0_ := Aside0.mk (below_step (by repeat (first | (with_reducible first | exact HB.out | apply below_alloc | apply pw_below_drewN | apply below_drew1) | exact HB.out)) hb); clear HB; have HB := n0_; clear n0_; (try clear hb); (try clear hb2); (try clear hk); (try clear hi)) | (go_at_call 10; (with_reducible refine (root_Down.calls a0 10 (wrap64 (1 + (wrap64 (a1)))) t138 _ A15.out).mono ?_); rintro e w33 ⟨rfl, hb⟩; have n0_ := Aside0.mk (below_step (by repeat (first | (with_reducible first | exact HB.out | apply below_alloc | apply pw_below_drewN | apply below_drew1) | exact HB.out)) hb); clear HB; have HB := n0_; clear n0_; (try clear hb); (try clear hb2); (try clear hk); (try clear hi)) | (go_at_call 11; (with_reducible refine (root_Ceil.calls (wrap64 (100 * a0)) 10 (wrap64 (10 * (wrap64 (1 + (wrap64 (a1)))))) t139 _ A17.out).mono ?_); rintro e w34 ⟨rfl, hb⟩; have n0_ := Aside0.mk (below_step (by repeat (first | (with_reducible first | exact HB.out | apply below_alloc | apply pw_below_drewN | apply below_drew1) | exact HB.out)) hb); clear HB; have HB := n0_; clear n0_; (try clear hb); (try clear hb2); (try clear hk); (try clear hi)) | (go_at_call 11; (with_reducible refine (root_Ceil.calls a0 10 (wrap64 (1 + (wrap64 (a1)))) t140 _ A18.out).mono ?_); rintro e w35 ⟨rfl, hb⟩; have n0_ := Aside0.mk (below_step (by repeat (first | (with_reducible first | exact HB.out | apply below_alloc | apply pw_below_drewN | apply below_drew1) | exact HB.out)) hb); clear HB; have HB := n0_; clear n0_; (try clear hb); (try clear hb2); (try clear hk); (try clear hi)))
              go_ret
              exact ⟨by first | rfl | (simp [errW_none, errW_some] <;> rfl) | (simp [*, errW_none, errW_some] <;> rfl), by repeat (first | (with_reducible first | exact HB.out | apply below_alloc | apply pw_below_drewN | apply below_drew1) | exact HB.out)⟩
          · rw [if_neg c16] at H
            have c16b0 : (t137 == t138) = false := beq_eq_false_iff_ne.mpr c16
            have c16b1 : (t137 != t138) = true := bne_iff_ne.mpr c16
            obtain rfl := Option.some.inj H
            go_wp2_with (first | ((with_reducible refine gate_callee (f := 9) rfl ?_); refine goesL_ (some 24) rfl rfl Try.func9 (by kernel_rfl) rfl #[.int .i64 (wrap64 (100 * a0)), .int .i64 (wrap64 (10 * (wrap64 (1 + (wrap64 (a1))))))] rfl (by (try simp only [List.map_toArray, List.map_cons, List.map_nil]); first | done | rfl | (simp only [List.length_drop, List.length_take]; rfl)) ?_; (with_reducible refine (root_Near.calls (wrap64 (100 * a0)) (wrap64 (10 * (wrap64 (1 + (wrap64 (a1)))))) t135 _ A11.out).mono ?_); rintro e w36 ⟨rfl, hb⟩; refine ⟨_, rfl, ?_⟩; have n0_ := Aside0.mk (below_step (by repeat (first | (with_reducible first | exact HB.out | apply below_alloc | apply pw_below_drewN | apply below_drew1) | exact HB.out)) hb); clear HB; have HB := n0_; clear n0_; (try clear hb); (try clear hb2); (try clear hk); (try clear hi)) | ((with_reducible refine gate_callee (f := 9) rfl ?_); refine goesL_ (some 27) rfl rfl Try.func9 (by kernel_rfl) rfl #[.int .i64 a0, .int .i64 (wrap64 (1 + (wrap64 (a1))))] rfl (by (try simp only [List.map_toArray, List.map_cons, List.map_nil]); first | done | rfl | (simp only [List.length_drop, List.length_take]; rfl)) ?_; (with_reducible refine (root_Near.calls a0 (wrap64 (1 + (wrap64 (a1)))) t136 _ A12.out).mono ?_); rintro e w37 ⟨rfl, hb⟩; refine ⟨_, rfl, ?_⟩; have n0_ := Aside0.mk (below_step (by repeat (first | (with_reducible first | exact HB.out | apply below_alloc | apply pw_below_drewN | apply below_drew1) | exact HB.out)) hb); clear HB; have HB := n0_; clear n0_; (try clear hb); (try clear hb2); (try clear hk); (try clear hi)) | (go_at_call 10; (with_reducible refine (root_Down.calls (wrap64 (100 * a0)) 10 (wrap64 (10 * (wrap64 (1 + (wrap64 (a1)))))) t137 _ A14.out).mono ?_); rintro e w38 ⟨rfl, hb⟩; have n0_ := Aside0.mk (below_step (by repeat (first | (with_reducible first | exact HB.out | apply below_alloc | apply pw_below_drewN | apply below_drew1) | exact HB.out)) hb); clear HB; have HB := n0_; clear n0_; (try clear hb); (try clear hb2); (try clear hk); (try clear hi)) | (go_at_call 10; (with_reducible refine (root_Down.calls a0 10 (wrap64 (1 + (wrap64 (a1)))) t138 _ A15.out).mono ?_); rintro e w39 ⟨rfl, hb⟩; have n0_ := Aside0.mk (below_step (by repeat (first | (with_reducible first | exact HB.out | apply below_alloc | apply pw_below_drewN | apply below_drew1) | exact HB.out)) hb); clear HB; have HB := n0_; clear n0_; (try clear hb); (try clear hb2); (try clear hk); (try clear hi)))
            go_ret
            exact ⟨by first | rfl | (simp [errW_none, errW_some] <;> rfl) | (simp [*, errW_none, errW_some] <;> rfl), by repeat (first | (with_reducible first | exact HB.out | apply below_alloc | apply pw_below_drewN | apply below_drew1) | exact HB.out)⟩
        · rw [if_neg c13] at H
          have c13b0 : (t135 == t136) = false := beq_eq_false_iff_ne.mpr c13
          have c13b1 : (t135 != t136) = true := bne_iff_ne.mpr c13
          obtain rfl := Option.some.inj H
          go_wp2_with (first | ((with_reducible refine gate_callee (f := 9) rfl ?_); refine goesL_ (some 24) rfl rfl Try.func9 (by kernel_rfl) rfl #[.int .i64 (wrap64 (100 * a0)), .int .i64 (wrap64 (10 * (wrap64 (1 + (wrap64 (a1))))))] rfl (by (try simp only [List.map_toArray, List.map_cons, List.map_nil]); first | done | rfl | (simp only [List.length_drop, List.length_take]; rfl)) ?_; (with_reducible refine (root_Near.calls (wrap64 (100 * a0)) (wrap64 (10 * (wrap64 (1 + (wrap64 (a1)))))) t135 _ A11.out).mono ?_); rintro e w40 ⟨rfl, hb⟩; refine ⟨_, rfl, ?_⟩; have n0_ := Aside0.mk (below_step (by repeat (first | (with_reducible first | exact HB.out | apply below_alloc | apply pw_below_drewN | apply below_drew1) | exact HB.out)) hb); clear HB; have HB := n0_; clear n0_; (try clear hb); (try clear hb2); (try clear hk); (try clear hi)) | ((with_reducible refine gate_callee (f := 9) rfl ?_); refine goesL_ (some 27) rfl rfl Try.func9 (by kernel_rfl) rfl #[.int .i64 a0, .int .i64 (wrap64 (1 + (wrap64 (a1))))] rfl (by (try simp only [List.map_toArray, List.map_cons, List.map_nil]); first | done | rfl | (simp only [List.length_drop, List.length_take]; rfl)) ?_; (with_reducible refine (root_Near.calls a0 (wrap64 (1 + (wrap64 (a1)))) t136 _ A12.out).mono ?_); rintro e w41 ⟨rfl, hb⟩; refine ⟨_, rfl, ?_⟩; have n0_ := Aside0.mk (below_step (by repeat (first | (with_reducible first | exact HB.out | apply below_alloc | apply pw_below_drewN | apply below_drew1) | exact HB.out)) hb); clear HB; have HB := n0_; clear n0_; (try clear hb); (try clear hb2); (try clear hk); (try clear hi)))
          go_ret
          exact ⟨by first | rfl | (simp [errW_none, errW_some] <;> rfl) | (simp [*, errW_none, errW_some] <;> rfl), by repeat (first | (with_reducible first | exact HB.out | apply below_alloc | apply pw_below_drewN | apply below_drew1) | exact HB.out)⟩

/-- THE ONE PURE STATEMENT of entrepotlaw05_RootTens: yours. -/
def entrepotlaw05_RootTens.Pure : Prop := ∀ (a0 : Int) (a1 : Int), (Lit.int .i64 a0).wf = true → (Lit.int .u16 a1).wf = true → ∃ k, entrepotlaw05_RootTens.f k a0 a1 = some true
theorem entrepotlaw05_RootTens.walk (P : entrepotlaw05_RootTens.Pure) (a0 : Int) (a1 : Int) (w : World) (w0 : (Lit.int .i64 a0).wf = true) (w1 : (Lit.int .u16 a1).wf = true) :
    Calls Try.prog 6 #[.int .i64 a0, .int .u16 a1] w fun e w' => e = .returned (.bool true) ∧ Below w.heap.size w w' := by
  obtain ⟨k, h⟩ := P a0 a1 w0 w1
  refine (entrepotlaw05_RootTens.calls k a0 a1 true w h).mono ?_
  rintro e w' ⟨rfl, hd⟩
  exact ⟨rfl, hd⟩

end Go.Proofs.Ytnkhkjdmdjldaaa.P
