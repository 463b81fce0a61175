/- Written by a program of this session, after the kit's print: Lean functions for Go functions, and the proof that the machine comes to their answers. -/
import Derived.Test.YtdpfljkcnlamlaaDoorPx0
import Derived.Test.YtdpfljkcnlamlaaDoorPxEntrepotlaw06near
import Derived.Test.YtdpfljkcnlamlaaDoorPxEntrepotlaw06shown
import Derived.Test.YtdpfljkcnlamlaaDoorGDist
namespace Go.Proofs.YtdpfljkcnlamlaaDoor.P
open Go.RowKit Go.Proofs.YtdpfljkcnlamlaaDoorW.PrintWords Go.Proofs.YtdpfljkcnlamlaaDoorW.PrintLast Go.Proofs.YtdpfljkcnlamlaaDoorW.PrintMore
attribute [local go_sem] max2_int min2_int max_two min_two max_three min_three max_four min_four   -- for this text's walks alone
set_option linter.unusedVariables false
set_option linter.unusedSimpArgs false

/-! ### entrepotlaw06_MetricTurns: function 4 -/
def entrepotlaw06_MetricTurns.j0 : Nat → Int → Int → Int → Int → Int → Bool → Option (Bool)
 | 0, _, _, _, _, _, _ => none
 | k + 1, x0, x1, x2, x3, x9, x42 => if x42 = true then ((entrepotlaw06_shown.f).bind fun t143 => (if t143 = true then (some (x9 == 0)) else (some false))) else ((metric_Dist.f x0 x1 (wrap64 (-x2)) x3).bind fun bt144 => ((metric_Dist.f x0 x1 x2 (wrap64 (-x3))).bind fun bt146 => ((metric_Dist.f x0 x1 x3 x2).bind fun bt148 => ((metric_Dist.f x0 x1 0 0).bind fun bt150 => (if bt144.2 = 0 then (if bt146.2 = 0 then (if bt148.2 = 0 then (if bt150.2 = 0 then (if bt144.1 = x9 then (if bt146.1 = x9 then (if bt148.1 = x9 then (if bt150.1 = 0 then (if x9 ≥ 0 then (if x1 > 0 then (some true) else (if x9 > 0 then (some true) else (if x2 = 0 then (some (x3 == 0)) else (some false)))) else (some false)) else (some false)) else (some false)) else (some false)) else (some false)) else (some false)) else (some false)) else (some false)) else (some false))))))
def entrepotlaw06_MetricTurns.f (k : Nat) (a0 : Int) (a1 : Int) (a2 : Int) (a3 : Int) : Option (Bool) := (metric_Dist.f a0 a1 a2 a3).bind fun bt138 => (if bt138.2 = 0 then ((entrepotlaw06_near.f a2).bind fun t140 => (if t140 = true then ((entrepotlaw06_near.f a3).bind fun t141 => (if t141 = true then ((entrepotlaw06_shown.f).bind fun t142 => (entrepotlaw06_MetricTurns.j0 k a0 a1 a2 a3 bt138.1 (!t142))) else (entrepotlaw06_MetricTurns.j0 k a0 a1 a2 a3 bt138.1 true))) else (entrepotlaw06_MetricTurns.j0 k a0 a1 a2 a3 bt138.1 true))) else (entrepotlaw06_MetricTurns.j0 k a0 a1 a2 a3 bt138.1 true))
theorem entrepotlaw06_MetricTurns.mono_l : ∀ k, (∀ y0 y1 y2 y3 y4 y5, LeO (entrepotlaw06_MetricTurns.j0 k y0 y1 y2 y3 y4 y5) (entrepotlaw06_MetricTurns.j0 (k + 1) y0 y1 y2 y3 y4 y5))
 | 0 => fun _ _ _ _ _ _ r h => by simp [entrepotlaw06_MetricTurns.j0] at h
 | k + 1 => by
  have ih0 := entrepotlaw06_MetricTurns.mono_l k
  ·intro y0 y1 y2 y3 y4 y5
   unfold entrepotlaw06_MetricTurns.j0
   repeat' first
   | (with_reducible exact ih0 _ _ _ _ _ _)
   | (with_reducible exact LeO.refl _)
   | (with_reducible exact LeO.none _)
   | (with_reducible refine LeO.ite ?_ ?_)
   | (with_reducible refine LeO.bind ?_ (fun _ => ?_))
   | exact ih0 _ _ _ _ _ _
   | exact LeO.none _
   | refine LeO.ite ?_ ?_
   | refine LeO.bind ?_ (fun _ => ?_)
theorem entrepotlaw06_MetricTurns.mono : ∀ a0 a1 a2 a3 k, LeO (entrepotlaw06_MetricTurns.f k a0 a1 a2 a3) (entrepotlaw06_MetricTurns.f (k + 1) a0 a1 a2 a3) := by
 intro a0 a1 a2 a3 k
 have ih0 := entrepotlaw06_MetricTurns.mono_l k
 unfold entrepotlaw06_MetricTurns.f
 repeat' first
   | (with_reducible exact ih0 _ _ _ _ _ _)
   | (with_reducible exact LeO.refl _)
   | (with_reducible exact LeO.none _)
   | (with_reducible refine LeO.ite ?_ ?_)
   | (with_reducible refine LeO.bind ?_ (fun _ => ?_))
   | exact ih0 _ _ _ _ _ _
   | exact LeO.none _
   | refine LeO.ite ?_ ?_
   | refine LeO.bind ?_ (fun _ => ?_)
set_option maxHeartbeats 8000000 in
set_option maxRecDepth 100000 in
theorem entrepotlaw06_MetricTurns.callsT (k : Nat) (a0 : Int) (a1 : Int) (a2 : Int) (a3 : Int) (r : Bool) (w : World) (ht : Tab w) (h : entrepotlaw06_MetricTurns.f k a0 a1 a2 a3 = some r) (hr_ : Aside0 (r = true)) :
  Calls Tryd.prog 4 #[.int .i64 a0, .int .i64 a1, .int .i64 a2, .int .i64 a3] w fun e w' => e = .returned (.bool r) ∧ Below w.heap.size w w' := by
 have HTab_ := Aside0.mk ht
 clear ht
 have HB := Aside0.mk (Below.refl w.heap.size w)
 have H : ((metric_Dist.f a0 a1 a2 a3).bind fun bt138 => (if bt138.2 = 0 then ((entrepotlaw06_near.f a2).bind fun t140 => (if t140 = true then ((entrepotlaw06_near.f a3).bind fun t141 => (if t141 = true then ((entrepotlaw06_shown.f).bind fun t142 => (entrepotlaw06_MetricTurns.j0 k a0 a1 a2 a3 bt138.1 (!t142))) else (entrepotlaw06_MetricTurns.j0 k a0 a1 a2 a3 bt138.1 true))) else (entrepotlaw06_MetricTurns.j0 k a0 a1 a2 a3 bt138.1 true))) else (entrepotlaw06_MetricTurns.j0 k a0 a1 a2 a3 bt138.1 true))) = some r := h
 clear h
 replace H := Option.bind_eq_some_iff.mp H
 obtain ⟨⟨t138, t139⟩, A50, H⟩ := H
 replace H : (if t139 = 0 then ((entrepotlaw06_near.f a2).bind fun t140 => (if t140 = true then ((entrepotlaw06_near.f a3).bind fun t141 => (if t141 = true then ((entrepotlaw06_shown.f).bind fun t142 => (entrepotlaw06_MetricTurns.j0 k a0 a1 a2 a3 t138 (!t142))) else (entrepotlaw06_MetricTurns.j0 k a0 a1 a2 a3 t138 true))) else (entrepotlaw06_MetricTurns.j0 k a0 a1 a2 a3 t138 true))) else (entrepotlaw06_MetricTurns.j0 k a0 a1 a2 a3 t138 true)) = some r := H
 have A5 := Aside0.mk A50
 clear A50
 have HC6 := Aside0.mk H
 clear H
 go_enter Tryd.func4, Tryd.ntmps4
 go_upto_region 2 with (first | ((with_reducible refine gate_callee (f := 9) rfl ?_); refine goesL_ (some 24) rfl rfl Tryd.func9 (by kernel_rfl) rfl #[.int .i64 a0, .int .i64 a1, .int .i64 a2, .int .i64 a3] rfl (by (try simp only [List.map_toArray, List.map_cons, List.map_nil]); first | done | rfl | (simp only [List.length_drop, List.length_take]; rfl)) ?_; (with_reducible refine (metric_Dist.calls a0 a1 a2 a3 t138 t139 _ A5.out).mono ?_); rintro e w7 ⟨rfl, hb⟩; refine ⟨_, rfl, ?_⟩; have n0_ := Aside0.mk (below_step (by repeat (first | (with_reducible first | exact HB.out | apply below_alloc | apply pw_below_drewN | apply below_drew1) | exact HB.out)) hb); clear HB; have HB := n0_; clear n0_; (try clear hb); (try clear hb2); (try clear hk); (try clear hi)))
 (try simp only [Act.put, List.setIfInBounds_toArray, List.set_cons_zero, List.set_cons_succ])
 go_cut [42] (fun v42 wc => ∃ (kq : Nat) (x42_5 : Bool), v42 = .bool x42_5 ∧ Aside0 (entrepotlaw06_MetricTurns.j0 kq a0 a1 a2 a3 t138 x42_5 = some r) ∧ Aside0 (kq ≤ k) ∧ Aside0 (Below w.heap.size w wc))
 case first =>
  have H := HC6.out
  clear HC6
  by_cases c8 : t139 = 0
  ·rw [if_pos c8] at H
   have c8b0 : (t139 == 0) = true := beq_iff_eq.mpr c8
   have c8b1 : (t139 != 0) = false := bne_eq_false_iff_eq.mpr c8
   clear c8
   (first | rw [c8b0] | (simp only [i64_w, i32_w]; rw [c8b0]) | skip)
   replace H := Option.bind_eq_some_iff.mp H
   obtain ⟨t140, A90, H⟩ := H
   replace H : (if t140 = true then ((entrepotlaw06_near.f a3).bind fun t141 => (if t141 = true then ((entrepotlaw06_shown.f).bind fun t142 => (entrepotlaw06_MetricTurns.j0 k a0 a1 a2 a3 t138 (!t142))) else (entrepotlaw06_MetricTurns.j0 k a0 a1 a2 a3 t138 true))) else (entrepotlaw06_MetricTurns.j0 k a0 a1 a2 a3 t138 true)) = some r := H
   have A9 := Aside0.mk A90
   clear A90
   by_cases c10 : t140 = true
   ·subst c10
    have H1 : ((entrepotlaw06_near.f a3).bind fun t141 => (if t141 = true then ((entrepotlaw06_shown.f).bind fun t142 => (entrepotlaw06_MetricTurns.j0 k a0 a1 a2 a3 t138 (!t142))) else (entrepotlaw06_MetricTurns.j0 k a0 a1 a2 a3 t138 true))) = some r := by rw [if_pos rfl] at H; exact H
    clear H
    have H := H1
    clear H1
    replace H := Option.bind_eq_some_iff.mp H
    obtain ⟨t141, A110, H⟩ := H
    replace H : (if t141 = true then ((entrepotlaw06_shown.f).bind fun t142 => (entrepotlaw06_MetricTurns.j0 k a0 a1 a2 a3 t138 (!t142))) else (entrepotlaw06_MetricTurns.j0 k a0 a1 a2 a3 t138 true)) = some r := H
    have A11 := Aside0.mk A110
    clear A110
    by_cases c12 : t141 = true
    ·subst c12
     have H1 : ((entrepotlaw06_shown.f).bind fun t142 => (entrepotlaw06_MetricTurns.j0 k a0 a1 a2 a3 t138 (!t142))) = some r := by rw [if_pos rfl] at H; exact H
     clear H
     have H := H1
     clear H1
     replace H := Option.bind_eq_some_iff.mp H
     obtain ⟨t142, A130, H⟩ := H
     replace H : (entrepotlaw06_MetricTurns.j0 k a0 a1 a2 a3 t138 (!t142)) = some r := H
     have A13 := Aside0.mk A130
     clear A130
     have H' := Aside0.mk H
     clear H
     go_wp2_with (first | (go_at_call 12; (with_reducible refine (entrepotlaw06_near.calls a2 true _ A9.out).mono ?_); rintro e w' ⟨rfl, ⟨nd, rfl⟩⟩) | (go_at_call 12; (with_reducible refine (entrepotlaw06_near.calls a3 true _ A11.out).mono ?_); rintro e w' ⟨rfl, ⟨nd, rfl⟩⟩) | (go_at_call 11; (with_reducible refine (entrepotlaw06_shown.calls  t142 _ (tab_below HTab_.out (by repeat (first | (with_reducible first | exact HB.out | apply below_alloc | apply pw_below_drewN | apply below_drew1 | (refine below_set ?_ ?_; rotate_left; · assumption)) | exact HB.out))) A13.out).mono ?_); rintro e w14 ⟨rfl, hb⟩; have n0_ := Aside0.mk (below_step (by repeat (first | (with_reducible first | exact HB.out | apply below_alloc | apply pw_below_drewN | apply below_drew1) | exact HB.out)) hb); clear HB; have HB := n0_; clear n0_; (try clear hb); (try clear hb2); (try clear hk); (try clear hi)))
     go_meet
     case rel => exact ⟨_, (!t142), (by first | rfl | (simp; done) | (simp [*]; done)), H', ⟨by first | omega | exact Nat.le_refl _⟩, ⟨by repeat (first | (with_reducible first | exact HB.out | apply below_alloc | apply pw_below_drewN | apply below_drew1) | exact HB.out)⟩⟩
    ·replace c12 := Bool.eq_false_iff.mpr c12
     subst c12
     have H1 : (entrepotlaw06_MetricTurns.j0 k a0 a1 a2 a3 t138 true) = some r := by rw [if_neg (show ¬ (false = true) by decide)] at H; exact H
     clear H
     have H := H1
     clear H1
     have H' := Aside0.mk H
     clear H
     go_wp2_with (first | (go_at_call 12; (with_reducible refine (entrepotlaw06_near.calls a2 true _ A9.out).mono ?_); rintro e w' ⟨rfl, ⟨nd, rfl⟩⟩) | (go_at_call 12; (with_reducible refine (entrepotlaw06_near.calls a3 false _ A11.out).mono ?_); rintro e w' ⟨rfl, ⟨nd, rfl⟩⟩))
     go_meet
     case rel => exact ⟨_, (true), (by first | rfl | (simp; done) | (simp [*]; done)), H', ⟨by first | omega | exact Nat.le_refl _⟩, ⟨by repeat (first | (with_reducible first | exact HB.out | apply below_alloc | apply pw_below_drewN | apply below_drew1) | exact HB.out)⟩⟩
   ·replace c10 := Bool.eq_false_iff.mpr c10
    subst c10
    have H1 : (entrepotlaw06_MetricTurns.j0 k a0 a1 a2 a3 t138 true) = some r := by rw [if_neg (show ¬ (false = true) by decide)] at H; exact H
    clear H
    have H := H1
    clear H1
    have H' := Aside0.mk H
    clear H
    go_wp2_with (first | (go_at_call 12; (with_reducible refine (entrepotlaw06_near.calls a2 false _ A9.out).mono ?_); rintro e w' ⟨rfl, ⟨nd, rfl⟩⟩))
    go_meet
    case rel => exact ⟨_, (true), (by first | rfl | (simp; done) | (simp [*]; done)), H', ⟨by first | omega | exact Nat.le_refl _⟩, ⟨by repeat (first | (with_reducible first | exact HB.out | apply below_alloc | apply pw_below_drewN | apply below_drew1) | exact HB.out)⟩⟩
  ·rw [if_neg c8] at H
   have c8b0 : (t139 == 0) = false := beq_eq_false_iff_ne.mpr c8
   have c8b1 : (t139 != 0) = true := bne_iff_ne.mpr c8
   (first | rw [c8b0] | (simp only [i64_w, i32_w]; rw [c8b0]) | skip)
   have H' := Aside0.mk H
   clear H
   go_wp2
   go_meet
   case rel => exact ⟨_, (true), (by first | rfl | (simp; done) | (simp [*]; done)), H', ⟨by first | omega | exact Nat.le_refl _⟩, ⟨by repeat (first | (with_reducible first | exact HB.out | apply below_alloc | apply pw_below_drewN | apply below_drew1) | exact HB.out)⟩⟩
 case rest =>
  clear HC6
  obtain ⟨kq, x42_5, rfl, HA, HJ5, HB⟩ := hcut
  cases kq with
  | zero => exact absurd HA.out (by simp [entrepotlaw06_MetricTurns.j0])
  | succ kj5 =>
   have H := HA.out
   clear HA
   simp only [entrepotlaw06_MetricTurns.j0] at H
   by_cases c15 : x42_5 = true
   ·subst c15
    have H1 : ((entrepotlaw06_shown.f).bind fun t143 => (if t143 = true then (some (t138 == 0)) else (some false))) = some r := by rw [if_pos rfl] at H; exact H
    clear H
    have H := H1
    clear H1
    replace H := Option.bind_eq_some_iff.mp H
    obtain ⟨t143, A160, H⟩ := H
    replace H : (if t143 = true then (some (t138 == 0)) else (some false)) = some r := H
    have A16 := Aside0.mk A160
    clear A160
    by_cases c17 : t143 = true
    ·subst c17
     have H1 : (some (t138 == 0)) = some r := by rw [if_pos rfl] at H; exact H
     clear H
     have H := H1
     clear H1
     obtain rfl := Option.some.inj H
     go_wp2_with (first | ((with_reducible refine gate_callee (f := 11) rfl ?_); refine goesL_ (some 43) rfl rfl Tryd.func11 (by kernel_rfl) rfl #[] rfl (by (try simp only [List.map_toArray, List.map_cons, List.map_nil]); first | done | rfl | (simp only [List.length_drop, List.length_take]; rfl)) ?_; (with_reducible refine (entrepotlaw06_shown.calls  true _ (tab_below HTab_.out (by repeat (first | (with_reducible first | exact HB.out | apply below_alloc | apply pw_below_drewN | apply below_drew1 | (refine below_set ?_ ?_; rotate_left; · assumption)) | exact HB.out))) A16.out).mono ?_); rintro e w18 ⟨rfl, hb⟩; refine ⟨_, rfl, ?_⟩; have n0_ := Aside0.mk (below_step (by repeat (first | (with_reducible first | exact HB.out | apply below_alloc | apply pw_below_drewN | apply below_drew1) | exact HB.out)) hb); clear HB; have HB := n0_; clear n0_; (try clear hb); (try clear hb2); (try clear hk); (try clear hi)))
     go_ret
     exact ⟨by first | rfl | (simp [errW_none, errW_some] <;> rfl) | (simp [*, errW_none, errW_some] <;> rfl), by repeat (first | (with_reducible first | exact HB.out | apply below_alloc | apply pw_below_drewN | apply below_drew1) | exact HB.out)⟩
    ·replace c17 := Bool.eq_false_iff.mpr c17
     subst c17
     have H1 : (some false) = some r := by rw [if_neg (show ¬ (false = true) by decide)] at H; exact H
     clear H
     have H := H1
     clear H1
     exact absurd ((Option.some.inj H).trans hr_.out) (by decide)
   ·replace c15 := Bool.eq_false_iff.mpr c15
    subst c15
    have H1 : ((metric_Dist.f a0 a1 (wrap64 (-a2)) a3).bind fun bt144 => ((metric_Dist.f a0 a1 a2 (wrap64 (-a3))).bind fun bt146 => ((metric_Dist.f a0 a1 a3 a2).bind fun bt148 => ((metric_Dist.f a0 a1 0 0).bind fun bt150 => (if bt144.2 = 0 then (if bt146.2 = 0 then (if bt148.2 = 0 then (if bt150.2 = 0 then (if bt144.1 = t138 then (if bt146.1 = t138 then (if bt148.1 = t138 then (if bt150.1 = 0 then (if t138 ≥ 0 then (if a1 > 0 then (some true) else (if t138 > 0 then (some true) else (if a2 = 0 then (some (a3 == 0)) else (some false)))) else (some false)) else (some false)) else (some false)) else (some false)) else (some false)) else (some false)) else (some false)) else (some false)) else (some false)))))) = some r := by rw [if_neg (show ¬ (false = true) by decide)] at H; exact H
    clear H
    have H := H1
    clear H1
    replace H := Option.bind_eq_some_iff.mp H
    obtain ⟨⟨t144, t145⟩, A190, H⟩ := H
    replace H : ((metric_Dist.f a0 a1 a2 (wrap64 (-a3))).bind fun bt146 => ((metric_Dist.f a0 a1 a3 a2).bind fun bt148 => ((metric_Dist.f a0 a1 0 0).bind fun bt150 => (if t145 = 0 then (if bt146.2 = 0 then (if bt148.2 = 0 then (if bt150.2 = 0 then (if t144 = t138 then (if bt146.1 = t138 then (if bt148.1 = t138 then (if bt150.1 = 0 then (if t138 ≥ 0 then (if a1 > 0 then (some true) else (if t138 > 0 then (some true) else (if a2 = 0 then (some (a3 == 0)) else (some false)))) else (some false)) else (some false)) else (some false)) else (some false)) else (some false)) else (some false)) else (some false)) else (some false)) else (some false))))) = some r := H
    have A19 := Aside0.mk A190
    clear A190
    replace H := Option.bind_eq_some_iff.mp H
    obtain ⟨⟨t146, t147⟩, A200, H⟩ := H
    replace H : ((metric_Dist.f a0 a1 a3 a2).bind fun bt148 => ((metric_Dist.f a0 a1 0 0).bind fun bt150 => (if t145 = 0 then (if t147 = 0 then (if bt148.2 = 0 then (if bt150.2 = 0 then (if t144 = t138 then (if t146 = t138 then (if bt148.1 = t138 then (if bt150.1 = 0 then (if t138 ≥ 0 then (if a1 > 0 then (some true) else (if t138 > 0 then (some true) else (if a2 = 0 then (some (a3 == 0)) else (some false)))) else (some false)) else (some false)) else (some false)) else (some false)) else (some false)) else (some false)) else (some false)) else (some false)) else (some false)))) = some r := H
    have A20 := Aside0.mk A200
    clear A200
    replace H := Option.bind_eq_some_iff.mp H
    obtain ⟨⟨t148, t149⟩, A210, H⟩ := H
    replace H : ((metric_Dist.f a0 a1 0 0).bind fun bt150 => (if t145 = 0 then (if t147 = 0 then (if t149 = 0 then (if bt150.2 = 0 then (if t144 = t138 then (if t146 = t138 then (if t148 = t138 then (if bt150.1 = 0 then (if t138 ≥ 0 then (if a1 > 0 then (some true) else (if t138 > 0 then (some true) else (if a2 = 0 then (some (a3 == 0)) else (some false)))) else (some false)) else (some false)) else (some false)) else (some false)) else (some false)) else (some false)) else (some false)) else (some false)) else (some false))) = some r := H
    have A21 := Aside0.mk A210
    clear A210
    replace H := Option.bind_eq_some_iff.mp H
    obtain ⟨⟨t150, t151⟩, A220, H⟩ := H
    replace H : (if t145 = 0 then (if t147 = 0 then (if t149 = 0 then (if t151 = 0 then (if t144 = t138 then (if t146 = t138 then (if t148 = t138 then (if t150 = 0 then (if t138 ≥ 0 then (if a1 > 0 then (some true) else (if t138 > 0 then (some true) else (if a2 = 0 then (some (a3 == 0)) else (some false)))) else (some false)) else (some false)) else (some false)) else (some false)) else (some false)) else (some false)) else (some false)) else (some false)) else (some false)) = some r := H
    have A22 := Aside0.mk A220
    clear A220
    by_cases c23 : t145 = 0
    ·rw [if_pos c23] at H
     have c23b0 : (t145 == 0) = true := beq_iff_eq.mpr c23
     have c23b1 : (t145 != 0) = false := bne_eq_false_iff_eq.mpr c23
     clear c23
     by_cases c24 : t147 = 0
     ·rw [if_pos c24] at H
      have c24b0 : (t147 == 0) = true := beq_iff_eq.mpr c24
      have c24b1 : (t147 != 0) = false := bne_eq_false_iff_eq.mpr c24
      clear c24
      by_cases c25 : t149 = 0
      ·rw [if_pos c25] at H
       have c25b0 : (t149 == 0) = true := beq_iff_eq.mpr c25
       have c25b1 : (t149 != 0) = false := bne_eq_false_iff_eq.mpr c25
       clear c25
       by_cases c26 : t151 = 0
       ·rw [if_pos c26] at H
        have c26b0 : (t151 == 0) = true := beq_iff_eq.mpr c26
        have c26b1 : (t151 != 0) = false := bne_eq_false_iff_eq.mpr c26
        clear c26
        by_cases c27 : t144 = t138
        ·rw [if_pos c27] at H
         have c27b0 : (t144 == t138) = true := beq_iff_eq.mpr c27
         have c27b1 : (t144 != t138) = false := bne_eq_false_iff_eq.mpr c27
         clear c27
         by_cases c28 : t146 = t138
         ·rw [if_pos c28] at H
          have c28b0 : (t146 == t138) = true := beq_iff_eq.mpr c28
          have c28b1 : (t146 != t138) = false := bne_eq_false_iff_eq.mpr c28
          clear c28
          by_cases c29 : t148 = t138
          ·rw [if_pos c29] at H
           have c29b0 : (t148 == t138) = true := beq_iff_eq.mpr c29
           have c29b1 : (t148 != t138) = false := bne_eq_false_iff_eq.mpr c29
           clear c29
           by_cases c30 : t150 = 0
           ·rw [if_pos c30] at H
            have c30b0 : (t150 == 0) = true := beq_iff_eq.mpr c30
            have c30b1 : (t150 != 0) = false := bne_eq_false_iff_eq.mpr c30
            clear c30
            by_cases c31 : t138 ≥ 0
            ·rw [if_pos c31] at H
             have c31b0 : decide (0 ≤ t138) = true := decide_eq_true c31
             clear c31
             by_cases c32 : a1 > 0
             ·rw [if_pos c32] at H
              have c32b0 : decide (0 < a1) = true := decide_eq_true c32
              clear c32
              obtain rfl := Option.some.inj H
              go_wp2_with (first | ((with_reducible refine gate_callee (f := 9) rfl ?_); refine goesL_ (some 54) rfl rfl Tryd.func9 (by kernel_rfl) rfl #[.int .i64 a0, .int .i64 a1, .int .i64 (wrap64 (-a2)), .int .i64 a3] rfl (by (try simp only [List.map_toArray, List.map_cons, List.map_nil]); first | done | rfl | (simp only [List.length_drop, List.length_take]; rfl)) ?_; (with_reducible refine (metric_Dist.calls a0 a1 (wrap64 (-a2)) a3 t144 t145 _ A19.out).mono ?_); rintro e w33 ⟨rfl, hb⟩; refine ⟨_, rfl, ?_⟩; have n0_ := Aside0.mk (below_step (by repeat (first | (with_reducible first | exact HB.out | apply below_alloc | apply pw_below_drewN | apply below_drew1) | exact HB.out)) hb); clear HB; have HB := n0_; clear n0_; (try clear hb); (try clear hb2); (try clear hk); (try clear hi)) | ((with_reducible refine gate_callee (f := 9) rfl ?_); refine goesL_ (some 63) rfl rfl Tryd.func9 (by kernel_rfl) rfl #[.int .i64 a0, .int .i64 a1, .int .i64 a2, .int .i64 (wrap64 (-a3))] rfl (by (try simp only [List.map_toArray, List.map_cons, List.map_nil]); first | done | rfl | (simp only [List.length_drop, List.length_take]; rfl)) ?_; (with_reducible refine (metric_Dist.calls a0 a1 a2 (wrap64 (-a3)) t146 t147 _ A20.out).mono ?_); rintro e w34 ⟨rfl, hb⟩; refine ⟨_, rfl, ?_⟩; have n0_ := Aside0.mk (below_step (by repeat (first | (with_reducible first | exact HB.out | apply below_alloc | apply pw_below_drewN | apply below_drew1) | exact HB.out)) hb); clear HB; have HB := n0_; clear n0_; (try clear hb); (try clear hb2); (try clear hk); (try clear hi)) | ((with_reducible refine gate_callee (f := 9) rfl ?_); refine goesL_ (some 71) rfl rfl Tryd.func9 (by kernel_rfl) rfl #[.int .i64 a0, .int .i64 a1, .int .i64 a3, .int .i64 a2] rfl (by (try simp only [List.map_toArray, List.map_cons, List.map_nil]); first | done | rfl | (simp only [List.length_drop, List.length_take]; rfl)) ?_; (with_reducible refine (metric_Dist.calls a0 a1 a3 a2 t148 t149 _ A21.out).mono ?_); rintro e w35 ⟨rfl, hb⟩; refine ⟨_, rfl, ?_⟩; have n0_ := Aside0.mk (below_step (by repeat (first | (with_reducible first | exact HB.out | apply below_alloc | apply pw_below_drewN | apply below_drew1) | exact HB.out)) hb); clear HB; have HB := n0_; clear n0_; (try clear hb); (try clear hb2); (try clear hk); (try clear hi)) | ((with_reducible refine gate_callee (f := 9) rfl ?_); refine goesL_ (some 77) rfl rfl Tryd.func9 (by kernel_rfl) rfl #[.int .i64 a0, .int .i64 a1, .int .i64 0, .int .i64 0] rfl (by (try simp only [List.map_toArray, List.map_cons, List.map_nil]); first | done | rfl | (simp only [List.length_drop, List.length_take]; rfl)) ?_; (with_reducible refine (metric_Dist.calls a0 a1 0 0 t150 t151 _ A22.out).mono ?_); rintro e w36 ⟨rfl, hb⟩; refine ⟨_, rfl, ?_⟩; have n0_ := Aside0.mk (below_step (by repeat (first | (with_reducible first | exact HB.out | apply below_alloc | apply pw_below_drewN | apply below_drew1) | exact HB.out)) hb); clear HB; have HB := n0_; clear n0_; (try clear hb); (try clear hb2); (try clear hk); (try clear hi)))
              go_ret
              exact ⟨by first | rfl | (simp [errW_none, errW_some] <;> rfl) | (simp [*, errW_none, errW_some] <;> rfl), by repeat (first | (with_reducible first | exact HB.out | apply below_alloc | apply pw_below_drewN | apply below_drew1) | exact HB.out)⟩
             ·rw [if_neg c32] at H
              have c32b0 : decide (0 < a1) = false := decide_eq_false c32
              clear c32
              by_cases c37 : t138 > 0
              ·rw [if_pos c37] at H
               have c37b0 : decide (0 < t138) = true := decide_eq_true c37
               clear c37
               obtain rfl := Option.some.inj H
               go_wp2_with (first | ((with_reducible refine gate_callee (f := 9) rfl ?_); refine goesL_ (some 54) rfl rfl Tryd.func9 (by kernel_rfl) rfl #[.int .i64 a0, .int .i64 a1, .int .i64 (wrap64 (-a2)), .int .i64 a3] rfl (by (try simp only [List.map_toArray, List.map_cons, List.map_nil]); first | done | rfl | (simp only [List.length_drop, List.length_take]; rfl)) ?_; (with_reducible refine (metric_Dist.calls a0 a1 (wrap64 (-a2)) a3 t144 t145 _ A19.out).mono ?_); rintro e w38 ⟨rfl, hb⟩; refine ⟨_, rfl, ?_⟩; have n0_ := Aside0.mk (below_step (by repeat (first | (with_reducible first | exact HB.out | apply below_alloc | apply pw_below_drewN | apply below_drew1) | exact HB.out)) hb); clear HB; have HB := n0_; clear n0_; (try clear hb); (try clear hb2); (try clear hk); (try clear hi)) | ((with_reducible refine gate_callee (f := 9) rfl ?_); refine goesL_ (some 63) rfl rfl Tryd.func9 (by kernel_rfl) rfl #[.int .i64 a0, .int .i64 a1, .int .i64 a2, .int .i64 (wrap64 (-a3))] rfl (by (try simp only [List.map_toArray, List.map_cons, List.map_nil]); first | done | rfl | (simp only [List.length_drop, List.length_take]; rfl)) ?_; (with_reducible refine (metric_Dist.calls a0 a1 a2 (wrap64 (-a3)) t146 t147 _ A20.out).mono ?_); rintro e w39 ⟨rfl, hb⟩; refine ⟨_, rfl, ?_⟩; have n0_ := Aside0.mk (below_step (by repeat (first | (with_reducible first | exact HB.out | apply below_alloc | apply pw_below_drewN | apply below_drew1) | exact HB.out)) hb); clear HB; have HB := n0_; clear n0_; (try clear hb); (try clear hb2); (try clear hk); (try clear hi)) | ((with_reducible refine gate_callee (f := 9) rfl ?_); refine goesL_ (some 71) rfl rfl Tryd.func9 (by kernel_rfl) rfl #[.int .i64 a0, .int .i64 a1, .int .i64 a3, .int .i64 a2] rfl (by (try simp only [List.map_toArray, List.map_cons, List.map_nil]); first | done | rfl | (simp only [List.length_drop, List.length_take]; rfl)) ?_; (with_reducible refine (metric_Dist.calls a0 a1 a3 a2 t148 t149 _ A21.out).mono ?_); rintro e w40 ⟨rfl, hb⟩; refine ⟨_, rfl, ?_⟩; have n0_ := Aside0.mk (below_step (by repeat (first | (with_reducible first | exact HB.out | apply below_alloc | apply pw_below_drewN | apply below_drew1) | exact HB.out)) hb); clear HB; have HB := n0_; clear n0_; (try clear hb); (try clear hb2); (try clear hk); (try clear hi)) | ((with_reducible refine gate_callee (f := 9) rfl ?_); refine goesL_ (some 77) rfl rfl Tryd.func9 (by kernel_rfl) rfl #[.int .i64 a0, .int .i64 a1, .int .i64 0, .int .i64 0] rfl (by (try simp only [List.map_toArray, List.map_cons, List.map_nil]); first | done | rfl | (simp only [List.length_drop, List.length_take]; rfl)) ?_; (with_reducible refine (metric_Dist.calls a0 a1 0 0 t150 t151 _ A22.out).mono ?_); rintro e w41 ⟨rfl, hb⟩; refine ⟨_, rfl, ?_⟩; have n0_ := Aside0.mk (below_step (by repeat (first | (with_reducible first | exact HB.out | apply below_alloc | apply pw_below_drewN | apply below_drew1) | exact HB.out)) hb); clear HB; have HB := n0_; clear n0_; (try clear hb); (try clear hb2); (try clear hk); (try clear hi)))
               go_ret
               exact ⟨by first | rfl | (simp [errW_none, errW_some] <;> rfl) | (simp [*, errW_none, errW_some] <;> rfl), by repeat (first | (with_reducible first | exact HB.out | apply below_alloc | apply pw_below_drewN | apply below_drew1) | exact HB.out)⟩
              ·rw [if_neg c37] at H
               have c37b0 : decide (0 < t138) = false := decide_eq_false c37
               clear c37
               by_cases c42 : a2 = 0
               ·rw [if_pos c42] at H
                have c42b0 : (a2 == 0) = true := beq_iff_eq.mpr c42
                have c42b1 : (a2 != 0) = false := bne_eq_false_iff_eq.mpr c42
                clear c42
                obtain rfl := Option.some.inj H
                go_wp2_with (first | ((with_reducible refine gate_callee (f := 9) rfl ?_); refine goesL_ (some 54) rfl rfl Tryd.func9 (by kernel_rfl) rfl #[.int .i64 a0, .int .i64 a1, .int .i64 (wrap64 (-a2)), .int .i64 a3] rfl (by (try simp only [List.map_toArray, List.map_cons, List.map_nil]); first | done | rfl | (simp only [List.length_drop, List.length_take]; rfl)) ?_; (with_reducible refine (metric_Dist.calls a0 a1 (wrap64 (-a2)) a3 t144 t145 _ A19.out).mono ?_); rintro e w43 ⟨rfl, hb⟩; refine ⟨_, rfl, ?_⟩; have n0_ := Aside0.mk (below_step (by repeat (first | (with_reducible first | exact HB.out | apply below_alloc | apply pw_below_drewN | apply below_drew1) | exact HB.out)) hb); clear HB; have HB := n0_; clear n0_; (try clear hb); (try clear hb2); (try clear hk); (try clear hi)) | ((with_reducible refine gate_callee (f := 9) rfl ?_); refine goesL_ (some 63) rfl rfl Tryd.func9 (by kernel_rfl) rfl #[.int .i64 a0, .int .i64 a1, .int .i64 a2, .int .i64 (wrap64 (-a3))] rfl (by (try simp only [List.map_toArray, List.map_cons, List.map_nil]); first | done | rfl | (simp only [List.length_drop, List.length_take]; rfl)) ?_; (with_reducible refine (metric_Dist.calls a0 a1 a2 (wrap64 (-a3)) t146 t147 _ A20.out).mono ?_); rintro e w44 ⟨rfl, hb⟩; refine ⟨_, rfl, ?_⟩; have n0_ := Aside0.mk (below_step (by repeat (first | (with_reducible first | exact HB.out | apply below_alloc | apply pw_below_drewN | apply below_drew1) | exact HB.out)) hb); clear HB; have HB := n0_; clear n0_; (try clear hb); (try clear hb2); (try clear hk); (try clear hi)) | ((with_reducible refine gate_callee (f := 9) rfl ?_); refine goesL_ (some 71) rfl rfl Tryd.func9 (by kernel_rfl) rfl #[.int .i64 a0, .int .i64 a1, .int .i64 a3, .int .i64 a2] rfl (by (try simp only [List.map_toArray, List.map_cons, List.map_nil]); first | done | rfl | (simp only [List.length_drop, List.length_take]; rfl)) ?_; (with_reducible refine (metric_Dist.calls a0 a1 a3 a2 t148 t149 _ A21.out).mono ?_); rintro e w45 ⟨rfl, hb⟩; refine ⟨_, rfl, ?_⟩; have n0_ := Aside0.mk (below_step (by repeat (first | (with_reducible first | exact HB.out | apply below_alloc | apply pw_below_drewN | apply below_drew1) | exact HB.out)) hb); clear HB; have HB := n0_; clear n0_; (try clear hb); (try clear hb2); (try clear hk); (try clear hi)) | ((with_reducible refine gate_callee (f := 9) rfl ?_); refine goesL_ (some 77) rfl rfl Tryd.func9 (by kernel_rfl) rfl #[.int .i64 a0, .int .i64 a1, .int .i64 0, .int .i64 0] rfl (by (try simp only [List.map_toArray, List.map_cons, List.map_nil]); first | done | rfl | (simp only [List.length_drop, List.length_take]; rfl)) ?_; (with_reducible refine (metric_Dist.calls a0 a1 0 0 t150 t151 _ A22.out).mono ?_); rintro e w46 ⟨rfl, hb⟩; refine ⟨_, rfl, ?_⟩; have n0_ := Aside0.mk (below_step (by repeat (first | (with_reducible first | exact HB.out | apply below_alloc | apply pw_below_drewN | apply below_drew1) | exact HB.out)) hb); clear HB; have HB := n0_; clear n0_; (try clear hb); (try clear hb2); (try clear hk); (try clear hi)))
                go_ret
                exact ⟨by first | rfl | (simp [errW_none, errW_some] <;> rfl) | (simp [*, errW_none, errW_some] <;> rfl), by repeat (first | (with_reducible first | exact HB.out | apply below_alloc | apply pw_below_drewN | apply below_drew1) | exact HB.out)⟩
               ·rw [if_neg c42] at H
                have c42b0 : (a2 == 0) = false := beq_eq_false_iff_ne.mpr c42
                have c42b1 : (a2 != 0) = true := bne_iff_ne.mpr c42
                exact absurd ((Option.some.inj H).trans hr_.out) (by decide)
            ·rw [if_neg c31] at H
             have c31b0 : decide (0 ≤ t138) = false := decide_eq_false c31
             clear c31
             exact absurd ((Option.some.inj H).trans hr_.out) (by decide)
           ·rw [if_neg c30] at H
            have c30b0 : (t150 == 0) = false := beq_eq_false_iff_ne.mpr c30
            have c30b1 : (t150 != 0) = true := bne_iff_ne.mpr c30
            exact absurd ((Option.some.inj H).trans hr_.out) (by decide)
          ·rw [if_neg c29] at H
           have c29b0 : (t148 == t138) = false := beq_eq_false_iff_ne.mpr c29
           have c29b1 : (t148 != t138) = true := bne_iff_ne.mpr c29
           exact absurd ((Option.some.inj H).trans hr_.out) (by decide)
         ·rw [if_neg c28] at H
          have c28b0 : (t146 == t138) = false := beq_eq_false_iff_ne.mpr c28
          have c28b1 : (t146 != t138) = true := bne_iff_ne.mpr c28
          exact absurd ((Option.some.inj H).trans hr_.out) (by decide)
        ·rw [if_neg c27] at H
         have c27b0 : (t144 == t138) = false := beq_eq_false_iff_ne.mpr c27
         have c27b1 : (t144 != t138) = true := bne_iff_ne.mpr c27
         exact absurd ((Option.some.inj H).trans hr_.out) (by decide)
       ·rw [if_neg c26] at H
        have c26b0 : (t151 == 0) = false := beq_eq_false_iff_ne.mpr c26
        have c26b1 : (t151 != 0) = true := bne_iff_ne.mpr c26
        exact absurd ((Option.some.inj H).trans hr_.out) (by decide)
      ·rw [if_neg c25] at H
       have c25b0 : (t149 == 0) = false := beq_eq_false_iff_ne.mpr c25
       have c25b1 : (t149 != 0) = true := bne_iff_ne.mpr c25
       exact absurd ((Option.some.inj H).trans hr_.out) (by decide)
     ·rw [if_neg c24] at H
      have c24b0 : (t147 == 0) = false := beq_eq_false_iff_ne.mpr c24
      have c24b1 : (t147 != 0) = true := bne_iff_ne.mpr c24
      exact absurd ((Option.some.inj H).trans hr_.out) (by decide)
    ·rw [if_neg c23] at H
     have c23b0 : (t145 == 0) = false := beq_eq_false_iff_ne.mpr c23
     have c23b1 : (t145 != 0) = true := bne_iff_ne.mpr c23
     exact absurd ((Option.some.inj H).trans hr_.out) (by decide)

end Go.Proofs.YtdpfljkcnlamlaaDoor.P
