/- Written by a program of this session, after the kit's print: Lean functions for Go functions, and the proof that the machine comes to their answers. -/
import Derived.Test.YtdjkhcmblekeiaaPx0
import Derived.Test.YtdjkhcmblekeiaaGBlk
import Derived.Test.YtdjkhcmblekeiaaPxEntrepotlaw09long
import Derived.Test.YtdjkhcmblekeiaaPxEntrepotlaw09shown
import Derived.Test.YtdjkhcmblekeiaaPxPlanMany
import Derived.Test.YtdjkhcmblekeiaaGCount
import Derived.Test.YtdjkhcmblekeiaaGFind
import Derived.Test.YtdjkhcmblekeiaaPxEntrepotlaw09PlanJoinsD
namespace Go.Proofs.Ytdjkhcmblekeiaa.P
open Go.RowKit Go.Proofs.YtdjkhcmblekeiaaW.PrintWords Go.Proofs.YtdjkhcmblekeiaaW.PrintLast Go.Proofs.YtdjkhcmblekeiaaW.PrintMore
attribute [local go_sem] max2_int min2_int max_two min_two max_three min_three max_four min_four   -- for this text's walks alone
set_option linter.unusedVariables false
set_option linter.unusedSimpArgs false

set_option maxHeartbeats 8000000 in
set_option maxRecDepth 100000 in
theorem entrepotlaw09_PlanJoins.calls (k : Nat) (P0_0_ : Nat → Prop) (A0_0 : Option Addr) (c0_0 : Nat) (l0_0 : List (List Int)) (P1_0_ : Nat → Prop) (A1_0 : Option Addr) (c1_0 : Nat) (l1_0 : List (List Int)) (a2 : Int) (r : Bool) (w : World) (hs0_0 : Kd.V (Kd.slice 3 (Kd.int .i64)) 33 w w.heap.size (fun k_ => P0_0_ k_) (.slice A0_0 l0_0.length c0_0) l0_0) (hs1_0 : Kd.V (Kd.slice 3 (Kd.int .i64)) 33 w w.heap.size (fun k_ => P1_0_ k_) (.slice A1_0 l1_0.length c1_0) l1_0) (h : entrepotlaw09_PlanJoins.f k l0_0 l1_0 a2 = some r) :
  Calls Try.prog 5 #[.agg #[.slice A0_0 l0_0.length c0_0], .agg #[.slice A1_0 l1_0.length c1_0], .int .i64 a2] w fun e w' => e = .returned (.bool r) ∧ Below w.heap.size w w' := by
 have hu24 := Try.underlying24
 have HO0_0 := Am (show Kd.V (Kd.slice 3 (Kd.int .i64)) 33 w w.heap.size (fun k_ => ((P0_0_ k_ ∨ P1_0_ k_) ∨ w.heap.size ≤ k_)) (.slice A0_0 l0_0.length c0_0) l0_0 from Kd.V_mono hs0_0 (fun k_ hk => .inl (.inl hk)))
 have HO1_0 := Am (show Kd.V (Kd.slice 3 (Kd.int .i64)) 33 w w.heap.size (fun k_ => ((P0_0_ k_ ∨ P1_0_ k_) ∨ w.heap.size ≤ k_)) (.slice A1_0 l1_0.length c1_0) l1_0 from Kd.V_mono hs1_0 (fun k_ hk => .inl (.inr hk)))
 have HB := Am (Below.refl w.heap.size w)
 have H : ((entrepotlaw09_long.f k l0_0).bind fun t329 => (if t329 = true then (entrepotlaw09_PlanJoins.j0 k a2 true l0_0 l1_0) else ((entrepotlaw09_long.f k l1_0).bind fun t330 => (if t330 = true then (entrepotlaw09_PlanJoins.j0 k a2 true l0_0 l1_0) else ((entrepotlaw09_shown.f k).bind fun t331 => (entrepotlaw09_PlanJoins.j0 k a2 (!t331) l0_0 l1_0)))))) = some r := h
 clear h
 have HC4 := Am H
 clear H
 go_enter Try.func5, Try.ntmps5
 go_upto_region 1 with (first | ((with_reducible refine gate_dst (N := 3) rfl ?_); (try (refine gate_guard (by rfl) ?_; dsimp only)); refine box_event ?hg (N := 3) ?hd (cs := #[.slice A0_0 l0_0.length c0_0]) (t := 24) ?hr ?_; (case hd => rfl); (case hg => rfl); (case hr => first | (go_simp; done) | (go_simp; rfl)); intro gb327 hg w5 hbox hb; have n0_ := Am (Kd.V_below (Kd.V_elderB (by (with_reducible repeat (first | apply Kd.V_alloc | apply Kd.V_drewN | apply Kd.V_drew)); exact HO0_0.out) gb327 (Nat.le_of_eq hg.symm)) hb); have n1_ := Am (Kd.V_below (Kd.V_elderB (by (with_reducible repeat (first | apply Kd.V_alloc | apply Kd.V_drewN | apply Kd.V_drew)); exact HO1_0.out) gb327 (Nat.le_of_eq hg.symm)) hb); have n2_ := Am (below_step (by repeat (first | (with_reducible first | exact HB.out | apply below_alloc | apply pw_below_drewN | apply below_drew1) | exact HB.out)) hb); have n3_ := Am (hbox); have n4_ := Am ((by rw [hg]; exact (below_size (by repeat (first | (with_reducible first | exact HB.out | apply below_alloc | apply pw_below_drewN | apply below_drew1) | exact HB.out))) : w.heap.size ≤ gb327)); have n5_ := Am ((by rw [hg]; exact (below_size (by repeat (first | (with_reducible first | exact HB.out | apply below_alloc | apply pw_below_drewN | apply below_drew1) | exact HB.out))) : w.heap.size ≤ gb327)); clear HO0_0; clear HO1_0; clear HB; have HO0_0 := n0_; have HO1_0 := n1_; have HB := n2_; have BK327 := n3_; have GW327 := n4_; have GE327 := n5_; clear n0_ n1_ n2_ n3_ n4_ n5_; clear hb hbox hg) | ((with_reducible refine gate_dst (N := 4) rfl ?_); (try (refine gate_guard (by rfl) ?_; dsimp only)); refine box_event ?hg (N := 4) ?hd (cs := #[.slice A1_0 l1_0.length c1_0]) (t := 24) ?hr ?_; (case hd => rfl); (case hg => rfl); (case hr => first | (go_simp; done) | (go_simp; rfl)); intro gb328 hg w6 hbox hb; have n0_ := Am (Kd.V_below (Kd.V_elderB (by (with_reducible repeat (first | apply Kd.V_alloc | apply Kd.V_drewN | apply Kd.V_drew)); exact HO0_0.out) gb328 (Nat.le_of_eq hg.symm)) hb); have n1_ := Am (Kd.V_below (Kd.V_elderB (by (with_reducible repeat (first | apply Kd.V_alloc | apply Kd.V_drewN | apply Kd.V_drew)); exact HO1_0.out) gb328 (Nat.le_of_eq hg.symm)) hb); have n2_ := Am (blk_below (g := gb327) (o := .cells #[.slice A0_0 l0_0.length c0_0] 24 (0, 0)) (by (with_reducible repeat (first | refine blk_drewN ?_ _ | refine blk_drew ?_ | refine blk_alloc ?_ _)); exact BK327.out) hb); have n3_ := Am (below_step (by repeat (first | (with_reducible first | exact HB.out | apply below_alloc | apply pw_below_drewN | apply below_drew1 | refine below_set ?_ GE327.out) | exact HB.out)) hb); have n4_ := Am (hbox); have n5_ := Am ((by rw [hg]; exact (below_size (by repeat (first | (with_reducible first | exact HB.out | apply below_alloc | apply pw_below_drewN | apply below_drew1 | refine below_set ?_ GE327.out) | exact HB.out))) : w.heap.size ≤ gb328)); have n6_ := Am ((by rw [hg]; exact (below_size (by repeat (first | (with_reducible first | exact HB.out | apply below_alloc | apply pw_below_drewN | apply below_drew1 | refine below_set ?_ GE327.out) | exact HB.out))) : w.heap.size ≤ gb328)); have n7_ := Am ((by rw [hg]; exact Nat.ne_of_lt (blk_lt (g := gb327) (o := .cells #[.slice A0_0 l0_0.length c0_0] 24 (0, 0)) (by (with_reducible repeat (first | refine blk_drewN ?_ _ | refine blk_drew ?_ | refine blk_alloc ?_ _)); exact BK327.out)) : gb327 ≠ gb328)); have n8_ := Am ((by rw [hg]; exact Nat.ne_of_gt (blk_lt (g := gb327) (o := .cells #[.slice A0_0 l0_0.length c0_0] 24 (0, 0)) (by (with_reducible repeat (first | refine blk_drewN ?_ _ | refine blk_drew ?_ | refine blk_alloc ?_ _)); exact BK327.out)) : gb328 ≠ gb327)); clear HO0_0; clear HO1_0; clear BK327; clear HB; have HO0_0 := n0_; have HO1_0 := n1_; have BK327 := n2_; have HB := n3_; have BK328 := n4_; have GW328 := n5_; have GE328 := n6_; have NB327_328 := n7_; have NB328_327 := n8_; clear n0_ n1_ n2_ n3_ n4_ n5_ n6_ n7_ n8_; clear hb hbox hg))
 (try simp only [Act.put, s1_, s2_, s3_])
 go_cut [30] (fun v30 wc => ∃ (kq : Nat) (x30_3 : Bool), v30 = .bool x30_3 ∧ Aside0 (entrepotlaw09_PlanJoins.j0 kq a2 x30_3 l0_0 l1_0 = some r) ∧ Aside0 (kq ≤ k) ∧ Aside0 (Kd.V (Kd.slice 3 (Kd.int .i64)) 33 wc w.heap.size (fun k_ => ((P0_0_ k_ ∨ P1_0_ k_) ∨ w.heap.size ≤ k_) ∧ k_ ≠ gb327 ∧ k_ ≠ gb328) (.slice A0_0 l0_0.length c0_0) l0_0) ∧ Aside0 (Kd.V (Kd.slice 3 (Kd.int .i64)) 33 wc w.heap.size (fun k_ => ((P0_0_ k_ ∨ P1_0_ k_) ∨ w.heap.size ≤ k_) ∧ k_ ≠ gb327 ∧ k_ ≠ gb328) (.slice A1_0 l1_0.length c1_0) l1_0) ∧ Aside0 (wc.heap[gb327]? = some (.cells #[(.slice A0_0 l0_0.length c0_0)] 24 (0, 0))) ∧ Aside0 (wc.heap[gb328]? = some (.cells #[(.slice A1_0 l1_0.length c1_0)] 24 (0, 0))) ∧ Aside0 (Below w.heap.size w wc))
 case first =>
  have H := HC4.out
  clear HC4
  replace H := Option.bind_eq_some_iff.mp H
  obtain ⟨t329, A70, H⟩ := H
  replace H : (if t329 = true then (entrepotlaw09_PlanJoins.j0 k a2 true l0_0 l1_0) else ((entrepotlaw09_long.f k l1_0).bind fun t330 => (if t330 = true then (entrepotlaw09_PlanJoins.j0 k a2 true l0_0 l1_0) else ((entrepotlaw09_shown.f k).bind fun t331 => (entrepotlaw09_PlanJoins.j0 k a2 (!t331) l0_0 l1_0))))) = some r := H
  have A7 := Am A70
  clear A70
  by_cases c8 : t329 = true
  ·subst c8
   have H1 : (entrepotlaw09_PlanJoins.j0 k a2 true l0_0 l1_0) = some r := by rw [if_pos rfl] at H; exact H
   clear H
   have H := H1
   clear H1
   have H' := Am H
   clear H
   have hnb9 := NB327_328.out
   have hnc9 := NB328_327.out
   obtain ⟨hcz10_0, hfz10_0⟩ := blk1_ BK327.out
   go_wp2_with (first | ((with_reducible refine gate_callee (f := 8) rfl ?_); refine goesL_ (some 22) rfl rfl Try.func8 (by kernel_rfl) rfl #[.agg #[.slice A0_0 l0_0.length c0_0]] rfl (by (try simp only [List.map_toArray, List.map_cons, List.map_nil]); first | done | rfl | (simp only [List.length_drop, List.length_take]; rfl)) ?_; (with_reducible refine (entrepotlaw09_long.calls k _ _ l0_0 true _ ?side1 ?side2 A7.out).mono ?_); (case side1 => repeat (first | exact (Kd.V_reads' HO0_0.out).2.2 | (with_reducible refine Kd.C_alloc ?_ _) | (with_reducible refine Kd.C_drewN ?_ _) | (with_reducible refine Kd.C_drew ?_))); (case side2 => exact (Kd.V_reads' HO0_0.out).2.1); rintro e w11 ⟨rfl, hb⟩; refine ⟨_, rfl, ?_⟩; have n0_ := Am (Kd.V_below (by (with_reducible repeat (first | apply Kd.V_alloc | apply Kd.V_drewN | apply Kd.V_drew)); exact HO0_0.out) hb); have n1_ := Am (Kd.V_below (by (with_reducible repeat (first | apply Kd.V_alloc | apply Kd.V_drewN | apply Kd.V_drew)); exact HO1_0.out) hb); have n2_ := Am (blk_below (g := gb327) (o := .cells #[.slice A0_0 l0_0.length c0_0] 24 (0, 0)) (by (with_reducible repeat (first | refine blk_drewN ?_ _ | refine blk_drew ?_ | refine blk_alloc ?_ _)); exact BK327.out) hb); have n3_ := Am (blk_below (g := gb328) (o := .cells #[.slice A1_0 l1_0.length c1_0] 24 (0, 0)) (by (with_reducible repeat (first | refine blk_drewN ?_ _ | refine blk_drew ?_ | refine blk_alloc ?_ _)); exact BK328.out) hb); have n4_ := Am (below_step (by repeat (first | (with_reducible first | exact HB.out | apply below_alloc | apply pw_below_drewN | apply below_drew1 | refine below_set ?_ GE327.out | refine below_set ?_ GE328.out) | exact HB.out)) hb); clear HO0_0; clear HO1_0; clear BK327; clear BK328; clear HB; have HO0_0 := n0_; have HO1_0 := n1_; have BK327 := n2_; have BK328 := n3_; have HB := n4_; clear n0_ n1_ n2_ n3_ n4_; (try clear hb); (try clear hb2); (try clear hk); (try clear hi)))
   go_meet
   case rel => exact ⟨_, (true), (by first | rfl | (simp; done) | (simp [*]; done)), H', ⟨by first | omega | exact Nat.le_refl _⟩, ⟨by (with_reducible repeat (first | apply Kd.V_alloc | apply Kd.V_drewN | apply Kd.V_drew)); exact Kd.V_mono HO0_0.out (fun _ hk => ⟨hk.1.1, ⟨hk.1.2, hk.2⟩⟩)⟩, ⟨by (with_reducible repeat (first | apply Kd.V_alloc | apply Kd.V_drewN | apply Kd.V_drew)); exact Kd.V_mono HO1_0.out (fun _ hk => ⟨hk.1.1, ⟨hk.1.2, hk.2⟩⟩)⟩, ⟨by (with_reducible repeat (first | refine blk_drewN ?_ _ | refine blk_drew ?_ | refine blk_alloc ?_ _)); exact BK327.out⟩, ⟨by (with_reducible repeat (first | refine blk_drewN ?_ _ | refine blk_drew ?_ | refine blk_alloc ?_ _)); exact BK328.out⟩, ⟨by repeat (first | (with_reducible first | exact HB.out | apply below_alloc | apply pw_below_drewN | apply below_drew1 | refine below_set ?_ GE327.out | refine below_set ?_ GE328.out) | exact HB.out)⟩⟩
  ·replace c8 := Bool.eq_false_iff.mpr c8
   subst c8
   have H1 : ((entrepotlaw09_long.f k l1_0).bind fun t330 => (if t330 = true then (entrepotlaw09_PlanJoins.j0 k a2 true l0_0 l1_0) else ((entrepotlaw09_shown.f k).bind fun t331 => (entrepotlaw09_PlanJoins.j0 k a2 (!t331) l0_0 l1_0)))) = some r := by rw [if_neg (show ¬ (false = true) by decide)] at H; exact H
   clear H
   have H := H1
   clear H1
   replace H := Option.bind_eq_some_iff.mp H
   obtain ⟨t330, A120, H⟩ := H
   replace H : (if t330 = true then (entrepotlaw09_PlanJoins.j0 k a2 true l0_0 l1_0) else ((entrepotlaw09_shown.f k).bind fun t331 => (entrepotlaw09_PlanJoins.j0 k a2 (!t331) l0_0 l1_0))) = some r := H
   have A12 := Am A120
   clear A120
   by_cases c13 : t330 = true
   ·subst c13
    have H1 : (entrepotlaw09_PlanJoins.j0 k a2 true l0_0 l1_0) = some r := by rw [if_pos rfl] at H; exact H
    clear H
    have H := H1
    clear H1
    have H' := Am H
    clear H
    have hnb14 := NB327_328.out
    have hnc14 := NB328_327.out
    obtain ⟨hcz15_0, hfz15_0⟩ := blk1_ BK327.out
    go_wp2_with (first | ((with_reducible refine gate_callee (f := 8) rfl ?_); refine goesL_ (some 22) rfl rfl Try.func8 (by kernel_rfl) rfl #[.agg #[.slice A0_0 l0_0.length c0_0]] rfl (by (try simp only [List.map_toArray, List.map_cons, List.map_nil]); first | done | rfl | (simp only [List.length_drop, List.length_take]; rfl)) ?_; (with_reducible refine (entrepotlaw09_long.calls k _ _ l0_0 false _ ?side1 ?side2 A7.out).mono ?_); (case side1 => repeat (first | exact (Kd.V_reads' HO0_0.out).2.2 | (with_reducible refine Kd.C_alloc ?_ _) | (with_reducible refine Kd.C_drewN ?_ _) | (with_reducible refine Kd.C_drew ?_))); (case side2 => exact (Kd.V_reads' HO0_0.out).2.1); rintro e w16 ⟨rfl, hb⟩; refine ⟨_, rfl, ?_⟩; have n0_ := Am (Kd.V_below (by (with_reducible repeat (first | apply Kd.V_alloc | apply Kd.V_drewN | apply Kd.V_drew)); exact HO0_0.out) hb); have n1_ := Am (Kd.V_below (by (with_reducible repeat (first | apply Kd.V_alloc | apply Kd.V_drewN | apply Kd.V_drew)); exact HO1_0.out) hb); have n2_ := Am (blk_below (g := gb327) (o := .cells #[.slice A0_0 l0_0.length c0_0] 24 (0, 0)) (by (with_reducible repeat (first | refine blk_drewN ?_ _ | refine blk_drew ?_ | refine blk_alloc ?_ _)); exact BK327.out) hb); have n3_ := Am (blk_below (g := gb328) (o := .cells #[.slice A1_0 l1_0.length c1_0] 24 (0, 0)) (by (with_reducible repeat (first | refine blk_drewN ?_ _ | refine blk_drew ?_ | refine blk_alloc ?_ _)); exact BK328.out) hb); have n4_ := Am (below_step (by repeat (first | (with_reducible first | exact HB.out | apply below_alloc | apply pw_below_drewN | apply below_drew1 | refine below_set ?_ GE327.out | refine below_set ?_ GE328.out) | exact HB.out)) hb); clear HO0_0; clear HO1_0; clear BK327; clear BK328; clear HB; have HO0_0 := n0_; have HO1_0 := n1_; have BK327 := n2_; have BK328 := n3_; have HB := n4_; clear n0_ n1_ n2_ n3_ n4_; (try clear hb); (try clear hb2); (try clear hk); (try clear hi); obtain ⟨hcz17_0, hfz17_0⟩ := blk1_ BK328.out) | (go_at_call 8; (with_reducible refine (entrepotlaw09_long.calls k _ _ l1_0 true _ ?side1 ?side2 A12.out).mono ?_); (case side1 => repeat (first | exact (Kd.V_reads' HO1_0.out).2.2 | (with_reducible refine Kd.C_alloc ?_ _) | (with_reducible refine Kd.C_drewN ?_ _) | (with_reducible refine Kd.C_drew ?_))); (case side2 => exact (Kd.V_reads' HO1_0.out).2.1); rintro e w18 ⟨rfl, hb⟩; have n0_ := Am (Kd.V_below (by (with_reducible repeat (first | apply Kd.V_alloc | apply Kd.V_drewN | apply Kd.V_drew)); exact HO0_0.out) hb); have n1_ := Am (Kd.V_below (by (with_reducible repeat (first | apply Kd.V_alloc | apply Kd.V_drewN | apply Kd.V_drew)); exact HO1_0.out) hb); have n2_ := Am (blk_below (g := gb327) (o := .cells #[.slice A0_0 l0_0.length c0_0] 24 (0, 0)) (by (with_reducible repeat (first | refine blk_drewN ?_ _ | refine blk_drew ?_ | refine blk_alloc ?_ _)); exact BK327.out) hb); have n3_ := Am (blk_below (g := gb328) (o := .cells #[.slice A1_0 l1_0.length c1_0] 24 (0, 0)) (by (with_reducible repeat (first | refine blk_drewN ?_ _ | refine blk_drew ?_ | refine blk_alloc ?_ _)); exact BK328.out) hb); have n4_ := Am (below_step (by repeat (first | (with_reducible first | exact HB.out | apply below_alloc | apply pw_below_drewN | apply below_drew1 | refine below_set ?_ GE327.out | refine below_set ?_ GE328.out) | exact HB.out)) hb); clear HO0_0; clear HO1_0; clear BK327; clear BK328; clear HB; have HO0_0 := n0_; have HO1_0 := n1_; have BK327 := n2_; have BK328 := n3_; have HB := n4_; clear n0_ n1_ n2_ n3_ n4_; (try clear hb); (try clear hb2); (try clear hk); (try clear hi)))
    go_meet
    case rel => exact ⟨_, (true), (by first | rfl | (simp; done) | (simp [*]; done)), H', ⟨by first | omega | exact Nat.le_refl _⟩, ⟨by (with_reducible repeat (first | apply Kd.V_alloc | apply Kd.V_drewN | apply Kd.V_drew)); exact Kd.V_mono HO0_0.out (fun _ hk => ⟨hk.1.1, ⟨hk.1.2, hk.2⟩⟩)⟩, ⟨by (with_reducible repeat (first | apply Kd.V_alloc | apply Kd.V_drewN | apply Kd.V_drew)); exact Kd.V_mono HO1_0.out (fun _ hk => ⟨hk.1.1, ⟨hk.1.2, hk.2⟩⟩)⟩, ⟨by (with_reducible repeat (first | refine blk_drewN ?_ _ | refine blk_drew ?_ | refine blk_alloc ?_ _)); exact BK327.out⟩, ⟨by (with_reducible repeat (first | refine blk_drewN ?_ _ | refine blk_drew ?_ | refine blk_alloc ?_ _)); exact BK328.out⟩, ⟨by repeat (first | (with_reducible first | exact HB.out | apply below_alloc | apply pw_below_drewN | apply below_drew1 | refine below_set ?_ GE327.out | refine below_set ?_ GE328.out) | exact HB.out)⟩⟩
   ·replace c13 := Bool.eq_false_iff.mpr c13
    subst c13
    have H1 : ((entrepotlaw09_shown.f k).bind fun t331 => (entrepotlaw09_PlanJoins.j0 k a2 (!t331) l0_0 l1_0)) = some r := by rw [if_neg (show ¬ (false = true) by decide)] at H; exact H
    clear H
    have H := H1
    clear H1
    replace H := Option.bind_eq_some_iff.mp H
    obtain ⟨t331, A190, H⟩ := H
    replace H : (entrepotlaw09_PlanJoins.j0 k a2 (!t331) l0_0 l1_0) = some r := H
    have A19 := Am A190
    clear A190
    have H' := Am H
    clear H
    have hnb20 := NB327_328.out
    have hnc20 := NB328_327.out
    obtain ⟨hcz21_0, hfz21_0⟩ := blk1_ BK327.out
    go_wp2_with (first | ((with_reducible refine gate_callee (f := 8) rfl ?_); refine goesL_ (some 22) rfl rfl Try.func8 (by kernel_rfl) rfl #[.agg #[.slice A0_0 l0_0.length c0_0]] rfl (by (try simp only [List.map_toArray, List.map_cons, List.map_nil]); first | done | rfl | (simp only [List.length_drop, List.length_take]; rfl)) ?_; (with_reducible refine (entrepotlaw09_long.calls k _ _ l0_0 false _ ?side1 ?side2 A7.out).mono ?_); (case side1 => repeat (first | exact (Kd.V_reads' HO0_0.out).2.2 | (with_reducible refine Kd.C_alloc ?_ _) | (with_reducible refine Kd.C_drewN ?_ _) | (with_reducible refine Kd.C_drew ?_))); (case side2 => exact (Kd.V_reads' HO0_0.out).2.1); rintro e w22 ⟨rfl, hb⟩; refine ⟨_, rfl, ?_⟩; have n0_ := Am (Kd.V_below (by (with_reducible repeat (first | apply Kd.V_alloc | apply Kd.V_drewN | apply Kd.V_drew)); exact HO0_0.out) hb); have n1_ := Am (Kd.V_below (by (with_reducible repeat (first | apply Kd.V_alloc | apply Kd.V_drewN | apply Kd.V_drew)); exact HO1_0.out) hb); have n2_ := Am (blk_below (g := gb327) (o := .cells #[.slice A0_0 l0_0.length c0_0] 24 (0, 0)) (by (with_reducible repeat (first | refine blk_drewN ?_ _ | refine blk_drew ?_ | refine blk_alloc ?_ _)); exact BK327.out) hb); have n3_ := Am (blk_below (g := gb328) (o := .cells #[.slice A1_0 l1_0.length c1_0] 24 (0, 0)) (by (with_reducible repeat (first | refine blk_drewN ?_ _ | refine blk_drew ?_ | refine blk_alloc ?_ _)); exact BK328.out) hb); have n4_ := Am (below_step (by repeat (first | (with_reducible first | exact HB.out | apply below_alloc | apply pw_below_drewN | apply below_drew1 | refine below_set ?_ GE327.out | refine below_set ?_ GE328.out) | exact HB.out)) hb); clear HO0_0; clear HO1_0; clear BK327; clear BK328; clear HB; have HO0_0 := n0_; have HO1_0 := n1_; have BK327 := n2_; have BK328 := n3_; have HB := n4_; clear n0_ n1_ n2_ n3_ n4_; (try clear hb); (try clear hb2); (try clear hk); (try clear hi); obtain ⟨hcz23_0, hfz23_0⟩ := blk1_ BK328.out) | (go_at_call 8; (with_reducible refine (entrepotlaw09_long.calls k _ _ l1_0 false _ ?side1 ?side2 A12.out).mono ?_); (case side1 => repeat (first | exact (Kd.V_reads' HO1_0.out).2.2 | (with_reducible refine Kd.C_alloc ?_ _) | (with_reducible refine Kd.C_drewN ?_ _) | (with_reducible refine Kd.C_drew ?_))); (case side2 => exact (Kd.V_reads' HO1_0.out).2.1); rintro e w24 ⟨rfl, hb⟩; have n0_ := Am (Kd.V_below (by (with_reducible repeat (first | apply Kd.V_alloc | apply Kd.V_drewN | apply Kd.V_drew)); exact HO0_0.out) hb); have n1_ := Am (Kd.V_below (by (with_reducible repeat (first | apply Kd.V_alloc | apply Kd.V_drewN | apply Kd.V_drew)); exact HO1_0.out) hb); have n2_ := Am (blk_below (g := gb327) (o := .cells #[.slice A0_0 l0_0.length c0_0] 24 (0, 0)) (by (with_reducible repeat (first | refine blk_drewN ?_ _ | refine blk_drew ?_ | refine blk_alloc ?_ _)); exact BK327.out) hb); have n3_ := Am (blk_below (g := gb328) (o := .cells #[.slice A1_0 l1_0.length c1_0] 24 (0, 0)) (by (with_reducible repeat (first | refine blk_drewN ?_ _ | refine blk_drew ?_ | refine blk_alloc ?_ _)); exact BK328.out) hb); have n4_ := Am (below_step (by repeat (first | (with_reducible first | exact HB.out | apply below_alloc | apply pw_below_drewN | apply below_drew1 | refine below_set ?_ GE327.out | refine below_set ?_ GE328.out) | exact HB.out)) hb); clear HO0_0; clear HO1_0; clear BK327; clear BK328; clear HB; have HO0_0 := n0_; have HO1_0 := n1_; have BK327 := n2_; have BK328 := n3_; have HB := n4_; clear n0_ n1_ n2_ n3_ n4_; (try clear hb); (try clear hb2); (try clear hk); (try clear hi)) | (go_at_call 9; (with_reducible refine (entrepotlaw09_shown.calls k  t331 _ A19.out).mono ?_); rintro e w25 ⟨rfl, hb⟩; have n0_ := Am (Kd.V_below (by (with_reducible repeat (first | apply Kd.V_alloc | apply Kd.V_drewN | apply Kd.V_drew)); exact HO0_0.out) hb); have n1_ := Am (Kd.V_below (by (with_reducible repeat (first | apply Kd.V_alloc | apply Kd.V_drewN | apply Kd.V_drew)); exact HO1_0.out) hb); have n2_ := Am (blk_below (g := gb327) (o := .cells #[.slice A0_0 l0_0.length c0_0] 24 (0, 0)) (by (with_reducible repeat (first | refine blk_drewN ?_ _ | refine blk_drew ?_ | refine blk_alloc ?_ _)); exact BK327.out) hb); have n3_ := Am (blk_below (g := gb328) (o := .cells #[.slice A1_0 l1_0.length c1_0] 24 (0, 0)) (by (with_reducible repeat (first | refine blk_drewN ?_ _ | refine blk_drew ?_ | refine blk_alloc ?_ _)); exact BK328.out) hb); have n4_ := Am (below_step (by repeat (first | (with_reducible first | exact HB.out | apply below_alloc | apply pw_below_drewN | apply below_drew1 | refine below_set ?_ GE327.out | refine below_set ?_ GE328.out) | exact HB.out)) hb); clear HO0_0; clear HO1_0; clear BK327; clear BK328; clear HB; have HO0_0 := n0_; have HO1_0 := n1_; have BK327 := n2_; have BK328 := n3_; have HB := n4_; clear n0_ n1_ n2_ n3_ n4_; (try clear hb); (try clear hb2); (try clear hk); (try clear hi)))
    go_meet
    case rel => exact ⟨_, (!t331), (by first | rfl | (simp; done) | (simp [*]; done)), H', ⟨by first | omega | exact Nat.le_refl _⟩, ⟨by (with_reducible repeat (first | apply Kd.V_alloc | apply Kd.V_drewN | apply Kd.V_drew)); exact Kd.V_mono HO0_0.out (fun _ hk => ⟨hk.1.1, ⟨hk.1.2, hk.2⟩⟩)⟩, ⟨by (with_reducible repeat (first | apply Kd.V_alloc | apply Kd.V_drewN | apply Kd.V_drew)); exact Kd.V_mono HO1_0.out (fun _ hk => ⟨hk.1.1, ⟨hk.1.2, hk.2⟩⟩)⟩, ⟨by (with_reducible repeat (first | refine blk_drewN ?_ _ | refine blk_drew ?_ | refine blk_alloc ?_ _)); exact BK327.out⟩, ⟨by (with_reducible repeat (first | refine blk_drewN ?_ _ | refine blk_drew ?_ | refine blk_alloc ?_ _)); exact BK328.out⟩, ⟨by repeat (first | (with_reducible first | exact HB.out | apply below_alloc | apply pw_below_drewN | apply below_drew1 | refine below_set ?_ GE327.out | refine below_set ?_ GE328.out) | exact HB.out)⟩⟩
 case rest =>
  clear HC4
  obtain ⟨kq, x30_3, rfl, HA, HJ3, HO_328a, HO_329a, BK327, BK328, HB⟩ := hcut
  cases kq with
  | zero => exact absurd HA.out (by simp [entrepotlaw09_PlanJoins.j0])
  | succ kj3 =>
   have H := HA.out
   clear HA
   simp only [entrepotlaw09_PlanJoins.j0] at H
   by_cases c26 : x30_3 = true
   ·subst c26
    have H1 : ((entrepotlaw09_shown.f kj3).bind fun t332 => (some t332)) = some r := by rw [if_pos rfl] at H; exact H
    clear H
    have H := H1
    clear H1
    replace H := Option.bind_eq_some_iff.mp H
    obtain ⟨t332, A270, H⟩ := H
    replace H : (some t332) = some r := H
    have A27 := Am A270
    clear A270
    obtain rfl := Option.some.inj H
    go_wp2_with (first | ((with_reducible refine gate_callee (f := 9) rfl ?_); refine goesL_ (some 31) rfl rfl Try.func9 (by kernel_rfl) rfl #[] rfl (by (try simp only [List.map_toArray, List.map_cons, List.map_nil]); first | done | rfl | (simp only [List.length_drop, List.length_take]; rfl)) ?_; (with_reducible refine (entrepotlaw09_shown.calls kj3  t332 _ A27.out).mono ?_); rintro e w28 ⟨rfl, hb⟩; refine ⟨_, rfl, ?_⟩; have n0_ := Am (Kd.V_below (by (with_reducible repeat (first | apply Kd.V_alloc | apply Kd.V_drewN | apply Kd.V_drew)); exact HO_328a.out) hb); have n1_ := Am (Kd.V_below (by (with_reducible repeat (first | apply Kd.V_alloc | apply Kd.V_drewN | apply Kd.V_drew)); exact HO_329a.out) hb); have n2_ := Am (blk_below (g := gb327) (o := .cells #[.slice A0_0 l0_0.length c0_0] 24 (0, 0)) (by (with_reducible repeat (first | refine blk_drewN ?_ _ | refine blk_drew ?_ | refine blk_alloc ?_ _)); exact BK327.out) hb); have n3_ := Am (blk_below (g := gb328) (o := .cells #[.slice A1_0 l1_0.length c1_0] 24 (0, 0)) (by (with_reducible repeat (first | refine blk_drewN ?_ _ | refine blk_drew ?_ | refine blk_alloc ?_ _)); exact BK328.out) hb); have n4_ := Am (below_step (by repeat (first | (with_reducible first | exact HB.out | apply below_alloc | apply pw_below_drewN | apply below_drew1 | refine below_set ?_ GE327.out | refine below_set ?_ GE328.out) | exact HB.out)) hb); clear HO_328a; clear HO_329a; clear BK327; clear BK328; clear HB; have HO_328a := n0_; have HO_329a := n1_; have BK327 := n2_; have BK328 := n3_; have HB := n4_; clear n0_ n1_ n2_ n3_ n4_; (try clear hb); (try clear hb2); (try clear hk); (try clear hi)))
    go_ret
    exact ⟨by first | rfl | (simp [errW_none, errW_some] <;> rfl) | (simp [*, errW_none, errW_some] <;> rfl), by repeat (first | (with_reducible first | exact HB.out | apply below_alloc | apply pw_below_drewN | apply below_drew1 | refine below_set ?_ GE327.out | refine below_set ?_ GE328.out) | exact HB.out)⟩
   ·replace c26 := Bool.eq_false_iff.mpr c26
    subst c26
    have H1 : ((some (([] : List (List Int)) : List (List Int))).bind fun y333 => (if y333.length + l0_0.length < 5864062014805 then ((some (y333 ++ l0_0 : List (List Int))).bind fun y336 => (if y336.length + l1_0.length < 5864062014805 then ((some (y336 ++ l1_0 : List (List Int))).bind fun y339 => ((plan_Count.f l0_0 30).bind fun t343 => ((plan_Count.f l1_0 30).bind fun t346 => ((plan_Count.f y339 30).bind fun t349 => (if (t343.length : Int) = 30 then (if (t346.length : Int) = 30 then (if (t349.length : Int) = 30 then ((plan_Many.f kj3 y339).bind fun t352 => ((plan_Many.f kj3 l0_0).bind fun t353 => ((plan_Many.f kj3 l1_0).bind fun t354 => (entrepotlaw09_PlanJoins.j1 kj3 a2 t343 t346 t349 (t352 != (wrap64 (t353 + t354))) l0_0 l1_0 y339)))) else (entrepotlaw09_PlanJoins.j1 kj3 a2 t343 t346 t349 true l0_0 l1_0 y339)) else (entrepotlaw09_PlanJoins.j1 kj3 a2 t343 t346 t349 true l0_0 l1_0 y339)) else (entrepotlaw09_PlanJoins.j1 kj3 a2 t343 t346 t349 true l0_0 l1_0 y339)))))) else (none))) else (none))) = some r := by rw [if_neg (show ¬ (false = true) by decide)] at H; exact H
    clear H
    have H := H1
    clear H1
    obtain ⟨y333, hy333⟩ : ∃ y_ : List (List Int), y_ = (([] : List (List Int))) := ⟨_, rfl⟩
    replace H : (if y333.length + l0_0.length < 5864062014805 then ((some (y333 ++ l0_0 : List (List Int))).bind fun y336 => (if y336.length + l1_0.length < 5864062014805 then ((some (y336 ++ l1_0 : List (List Int))).bind fun y339 => ((plan_Count.f l0_0 30).bind fun t343 => ((plan_Count.f l1_0 30).bind fun t346 => ((plan_Count.f y339 30).bind fun t349 => (if (t343.length : Int) = 30 then (if (t346.length : Int) = 30 then (if (t349.length : Int) = 30 then ((plan_Many.f kj3 y339).bind fun t352 => ((plan_Many.f kj3 l0_0).bind fun t353 => ((plan_Many.f kj3 l1_0).bind fun t354 => (entrepotlaw09_PlanJoins.j1 kj3 a2 t343 t346 t349 (t352 != (wrap64 (t353 + t354))) l0_0 l1_0 y339)))) else (entrepotlaw09_PlanJoins.j1 kj3 a2 t343 t346 t349 true l0_0 l1_0 y339)) else (entrepotlaw09_PlanJoins.j1 kj3 a2 t343 t346 t349 true l0_0 l1_0 y339)) else (entrepotlaw09_PlanJoins.j1 kj3 a2 t343 t346 t349 true l0_0 l1_0 y339)))))) else (none))) else (none)) = some r := by first | (rw [hy333]; with_reducible exact H) | (have H2_ := (Option.bind_some _ _).symm.trans H; rw [hy333]; with_reducible exact H2_) | (have H2_ := (Option.bind_some _ _).symm.trans H; with_reducible exact H2_) | with_reducible exact H | (rw [hy333]; exact H) | exact H
    have Ny333 := Am hy333
    clear hy333
    by_cases c29 : y333.length + l0_0.length < 5864062014805
    ·rw [if_pos c29] at H
     have LMc29 := Am c29
     clear c29
     obtain ⟨y336, hy336⟩ : ∃ y_ : List (List Int), y_ = (y333 ++ l0_0) := ⟨_, rfl⟩
     replace H : (if y336.length + l1_0.length < 5864062014805 then ((some (y336 ++ l1_0 : List (List Int))).bind fun y339 => ((plan_Count.f l0_0 30).bind fun t343 => ((plan_Count.f l1_0 30).bind fun t346 => ((plan_Count.f y339 30).bind fun t349 => (if (t343.length : Int) = 30 then (if (t346.length : Int) = 30 then (if (t349.length : Int) = 30 then ((plan_Many.f kj3 y339).bind fun t352 => ((plan_Many.f kj3 l0_0).bind fun t353 => ((plan_Many.f kj3 l1_0).bind fun t354 => (entrepotlaw09_PlanJoins.j1 kj3 a2 t343 t346 t349 (t352 != (wrap64 (t353 + t354))) l0_0 l1_0 y339)))) else (entrepotlaw09_PlanJoins.j1 kj3 a2 t343 t346 t349 true l0_0 l1_0 y339)) else (entrepotlaw09_PlanJoins.j1 kj3 a2 t343 t346 t349 true l0_0 l1_0 y339)) else (entrepotlaw09_PlanJoins.j1 kj3 a2 t343 t346 t349 true l0_0 l1_0 y339)))))) else (none)) = some r := by first | (rw [hy336]; with_reducible exact H) | (have H2_ := (Option.bind_some _ _).symm.trans H; rw [hy336]; with_reducible exact H2_) | (have H2_ := (Option.bind_some _ _).symm.trans H; with_reducible exact H2_) | with_reducible exact H | (rw [hy336]; exact H) | exact H
     have Ny336 := Am hy336
     clear hy336
     by_cases c30 : y336.length + l1_0.length < 5864062014805
     ·rw [if_pos c30] at H
      have LMc30 := Am c30
      clear c30
      obtain ⟨y339, hy339⟩ : ∃ y_ : List (List Int), y_ = (y336 ++ l1_0) := ⟨_, rfl⟩
      replace H : ((plan_Count.f l0_0 30).bind fun t343 => ((plan_Count.f l1_0 30).bind fun t346 => ((plan_Count.f y339 30).bind fun t349 => (if (t343.length : Int) = 30 then (if (t346.length : Int) = 30 then (if (t349.length : Int) = 30 then ((plan_Many.f kj3 y339).bind fun t352 => ((plan_Many.f kj3 l0_0).bind fun t353 => ((plan_Many.f kj3 l1_0).bind fun t354 => (entrepotlaw09_PlanJoins.j1 kj3 a2 t343 t346 t349 (t352 != (wrap64 (t353 + t354))) l0_0 l1_0 y339)))) else (entrepotlaw09_PlanJoins.j1 kj3 a2 t343 t346 t349 true l0_0 l1_0 y339)) else (entrepotlaw09_PlanJoins.j1 kj3 a2 t343 t346 t349 true l0_0 l1_0 y339)) else (entrepotlaw09_PlanJoins.j1 kj3 a2 t343 t346 t349 true l0_0 l1_0 y339))))) = some r := by first | (rw [hy339]; with_reducible exact H) | (have H2_ := (Option.bind_some _ _).symm.trans H; rw [hy339]; with_reducible exact H2_) | (have H2_ := (Option.bind_some _ _).symm.trans H; with_reducible exact H2_) | with_reducible exact H | (rw [hy339]; exact H) | exact H
      have Ny339 := Am hy339
      clear hy339
      replace H := Option.bind_eq_some_iff.mp H
      obtain ⟨t343, A310, H⟩ := H
      replace H : ((plan_Count.f l1_0 30).bind fun t346 => ((plan_Count.f y339 30).bind fun t349 => (if (t343.length : Int) = 30 then (if (t346.length : Int) = 30 then (if (t349.length : Int) = 30 then ((plan_Many.f kj3 y339).bind fun t352 => ((plan_Many.f kj3 l0_0).bind fun t353 => ((plan_Many.f kj3 l1_0).bind fun t354 => (entrepotlaw09_PlanJoins.j1 kj3 a2 t343 t346 t349 (t352 != (wrap64 (t353 + t354))) l0_0 l1_0 y339)))) else (entrepotlaw09_PlanJoins.j1 kj3 a2 t343 t346 t349 true l0_0 l1_0 y339)) else (entrepotlaw09_PlanJoins.j1 kj3 a2 t343 t346 t349 true l0_0 l1_0 y339)) else (entrepotlaw09_PlanJoins.j1 kj3 a2 t343 t346 t349 true l0_0 l1_0 y339)))) = some r := H
      have A31 := Am A310
      clear A310
      replace H := Option.bind_eq_some_iff.mp H
      obtain ⟨t346, A320, H⟩ := H
      replace H : ((plan_Count.f y339 30).bind fun t349 => (if (t343.length : Int) = 30 then (if (t346.length : Int) = 30 then (if (t349.length : Int) = 30 then ((plan_Many.f kj3 y339).bind fun t352 => ((plan_Many.f kj3 l0_0).bind fun t353 => ((plan_Many.f kj3 l1_0).bind fun t354 => (entrepotlaw09_PlanJoins.j1 kj3 a2 t343 t346 t349 (t352 != (wrap64 (t353 + t354))) l0_0 l1_0 y339)))) else (entrepotlaw09_PlanJoins.j1 kj3 a2 t343 t346 t349 true l0_0 l1_0 y339)) else (entrepotlaw09_PlanJoins.j1 kj3 a2 t343 t346 t349 true l0_0 l1_0 y339)) else (entrepotlaw09_PlanJoins.j1 kj3 a2 t343 t346 t349 true l0_0 l1_0 y339))) = some r := H
      have A32 := Am A320
      clear A320
      replace H := Option.bind_eq_some_iff.mp H
      obtain ⟨t349, A330, H⟩ := H
      replace H : (if (t343.length : Int) = 30 then (if (t346.length : Int) = 30 then (if (t349.length : Int) = 30 then ((plan_Many.f kj3 y339).bind fun t352 => ((plan_Many.f kj3 l0_0).bind fun t353 => ((plan_Many.f kj3 l1_0).bind fun t354 => (entrepotlaw09_PlanJoins.j1 kj3 a2 t343 t346 t349 (t352 != (wrap64 (t353 + t354))) l0_0 l1_0 y339)))) else (entrepotlaw09_PlanJoins.j1 kj3 a2 t343 t346 t349 true l0_0 l1_0 y339)) else (entrepotlaw09_PlanJoins.j1 kj3 a2 t343 t346 t349 true l0_0 l1_0 y339)) else (entrepotlaw09_PlanJoins.j1 kj3 a2 t343 t346 t349 true l0_0 l1_0 y339)) = some r := H
      have A33 := Am A330
      clear A330
      have HC34 := Am H
      clear H
      try go_wp2
      have n0_ := Am (Kd.V_drew HO_328a.out)
      have n1_ := Am (Kd.V_drew HO_329a.out)
      have n2_ := Am (blk_drew BK327.out)
      have n3_ := Am (blk_drew BK328.out)
      have n4_ := Am (below_drew1 HB.out)
      clear HO_328a
      clear HO_329a
      clear BK327
      clear BK328
      clear HB
      have HO_328a := n0_
      have HO_329a := n1_
      have BK327 := n2_
      have BK328 := n3_
      have HB := n4_
      clear n0_ n1_ n2_ n3_ n4_
      refine start_ (n := 10) (S := fun w' => w'.cell? ⟨gb327, 0, none⟩ = some (.slice A0_0 l0_0.length c0_0) ∧ w'.cell? ⟨gb328, 0, none⟩ = some (.slice A1_0 l1_0.length c1_0)) (ds := []) #[false, false, false, false, false, false, false, false, false, false] (by kernel_rfl) rfl rfl ⟨(blk_cell BK327.out 0).trans rfl, (blk_cell BK328.out 0).trans rfl⟩ (fun hHeld => ?_); refine with_tabW entrepotlaw09_PlanJoins.tab3 entrepotlaw09_PlanJoins.bits3 (fun HT_ HW_ => ?_)
      generalize wc.drew = w35 at HO_328a HO_329a BK327 BK328 HB hHeld ⊢
      refine pure_ (i := 1) (N := some 33) (v := ?_) (a' := ?_) #[false, true, false, false, false, false, false, false, false, false] rfl rfl (any_of HT_.out (by kernel_rfl)) (fun _ _ _ h => h) (Or.inl ⟨by rfl, ?_⟩) ?_ ?_
      rotate_left
      ·intro w'
       go_simp
       with_reducible rfl
      rotate_left
      ·simp only [Act.put, s1_, s2_, s3_, i64_w, i32_w]
       rfl
      refine pure_ (i := 4) (N := some 36) (v := ?_) (a' := ?_) #[false, true, false, false, true, false, false, false, false, false] rfl rfl (any_of HT_.out (by kernel_rfl)) (fun _ _ _ h => h) (Or.inl ⟨by rfl, ?_⟩) ?_ ?_
      rotate_left
      ·intro w'
       go_simp
       with_reducible rfl
      rotate_left
      ·simp only [Act.put, s1_, s2_, s3_, i64_w, i32_w]
       rfl
      refine take_ (i := 2) (N := some 34) (v := ?_) (a' := ?_) #[false, true, true, false, true, false, false, false, false, false] rfl rfl (take_ofW HT_.out HW_.out (by kernel_rfl)) (fun _ _ _ h => h) (Or.inl ⟨by rfl, ?_⟩) hHeld ?_ ?_
      rotate_left
      ·rintro w' ⟨s0, s1⟩
       go_simp
       with_reducible rfl
      rotate_left
      ·simp only [Act.put, s1_, s2_, s3_, i64_w, i32_w]
       rfl
      refine take_ (i := 5) (N := some 37) (v := ?_) (a' := ?_) #[false, true, true, false, true, true, false, false, false, false] rfl rfl (take_ofW HT_.out HW_.out (by kernel_rfl)) (fun _ _ _ h => h) (Or.inl ⟨by rfl, ?_⟩) hHeld ?_ ?_
      rotate_left
      ·rintro w' ⟨s0, s1⟩
       go_simp
       with_reducible rfl
      rotate_left
      ·simp only [Act.put, s1_, s2_, s3_, i64_w, i32_w]
       rfl
      refine join_ (σ := Value × Value × Value × Nat) 1 PJ0_ (fun s_ => [(32, s_.1), (35, s_.2.1), (38, s_.2.2.1), (7, .pointer (some ⟨s_.2.2.2, 0, none⟩)), (39, .agg #[s_.2.2.1])]) (fun s_ w' => (w'.cell? ⟨gb327, 0, none⟩ = some (.slice A0_0 l0_0.length c0_0) ∧ w'.cell? ⟨gb328, 0, none⟩ = some (.slice A1_0 l1_0.length c1_0)) ∧ (Kd.N (Kd.slice 3 (Kd.int .i64)) 33 w' w.heap.size (fun k_ => ((P0_0_ k_ ∨ P1_0_ k_) ∨ w.heap.size ≤ k_) ∧ k_ ≠ gb327 ∧ k_ ≠ gb328 ∧ k_ ≠ s_.2.2.2) s_.2.2.1 y339) ∧ (Kd.V (Kd.slice 3 (Kd.int .i64)) 33 w' w.heap.size (fun k_ => ((P0_0_ k_ ∨ P1_0_ k_) ∨ w.heap.size ≤ k_) ∧ some k_ ≠ (s_.2.2.1 : Value).ownBlock ∧ k_ ≠ gb327 ∧ k_ ≠ gb328 ∧ k_ ≠ s_.2.2.2) (.slice A0_0 l0_0.length c0_0) l0_0) ∧ (Kd.V (Kd.slice 3 (Kd.int .i64)) 33 w' w.heap.size (fun k_ => ((P0_0_ k_ ∨ P1_0_ k_) ∨ w.heap.size ≤ k_) ∧ some k_ ≠ (s_.2.2.1 : Value).ownBlock ∧ k_ ≠ gb327 ∧ k_ ≠ gb328 ∧ k_ ≠ s_.2.2.2) (.slice A1_0 l1_0.length c1_0) l1_0) ∧ (w'.heap[gb327]? = some (.cells #[.slice A0_0 l0_0.length c0_0] 24 (0, 0))) ∧ (w'.heap[gb328]? = some (.cells #[.slice A1_0 l1_0.length c1_0] 24 (0, 0))) ∧ (w'.heap[s_.2.2.2]? = some (.cells #[.slice none 0 0] 24 (0, 0))) ∧ (w.heap.size ≤ s_.2.2.2) ∧ (w.heap.size ≤ s_.2.2.2) ∧ (gb327 ≠ s_.2.2.2) ∧ (s_.2.2.2 ≠ gb327) ∧ (gb328 ≠ s_.2.2.2) ∧ (s_.2.2.2 ≠ gb328) ∧ (Below w.heap.size w w')) ?_ ?_
      rotate_left
      ·intro hCont
       refine two_ (i := 0) (j := 8) (Ni := some 32) (Nj := some 7) #[true, true, true, false, true, true, false, false, false, false] #[false, true, true, false, true, true, false, false, true, false] rfl rfl rfl rfl (two_of HT_.out (by kernel_rfl)) (by decide) (by decide) (fun K hK => ?_) (fun K hK => ?_)
       ·skip
        refine Kd.N_lit_step (Kd.slice 3 (Kd.int .i64)) _ 33 ?hg (N' := 32) ?hd (xs := ([] : List (List Int))) (inner := []) (ok := (fun k_ => ((P0_0_ k_ ∨ P1_0_ k_) ∨ w.heap.size ≤ k_) ∧ k_ ≠ gb327 ∧ k_ ≠ gb328)) (okp := (fun k_ => ((P0_0_ k_ ∨ P1_0_ k_) ∨ w.heap.size ≤ k_) ∧ k_ ≠ gb327 ∧ k_ ≠ gb328)) ?hr ?hp (fun _ hk => hk) ((show ∀ k_, w35.heap.size ≤ k_ → (fun k_ => ((P0_0_ k_ ∨ P1_0_ k_) ∨ w.heap.size ≤ k_) ∧ k_ ≠ gb327 ∧ k_ ≠ gb328) k_ from fun k_ hk => ⟨(.inr (Nat.le_trans (below_size (by repeat (first | (with_reducible first | exact HB.out | apply below_alloc | apply pw_below_drewN | apply below_drew1 | refine below_set ?_ GE327.out | refine below_set ?_ GE328.out) | exact HB.out))) hk)), Kd.freshB (g := gb327) (o := .cells #[.slice A0_0 l0_0.length c0_0] 24 (0, 0)) (by (with_reducible repeat (first | refine blk_drewN ?_ _ | refine blk_drew ?_ | refine blk_alloc ?_ _)); exact BK327.out) k_ hk, Kd.freshB (g := gb328) (o := .cells #[.slice A1_0 l1_0.length c1_0] 24 (0, 0)) (by (with_reducible repeat (first | refine blk_drewN ?_ _ | refine blk_drew ?_ | refine blk_alloc ?_ _)); exact BK328.out) k_ hk⟩) _ (Nat.le_refl _)) (Below.refl _ _) (Nat.le_refl _) (by simp) ?_; (case hd => rfl); (case hg => rfl); (case hr => first | (go_simp; done) | (go_simp; rfl)); (case hp => exact (Reps.none _ _))
        intro v334 w36 ho37 hb hg_ hnew_
        clear hg_ hnew_
        (first | rw [← Ny333.out] at ho37 | (simp only [Int.reduceToNat] at ho37; rw [← Ny333.out] at ho37))
        have n0_ := Am (Kd.V_elder' (by (with_reducible repeat (first | apply Kd.V_alloc | apply Kd.V_drewN | apply Kd.V_drew)); exact HO_328a.out) (Kd.N_base ho37) hb)
        have n1_ := Am (Kd.V_elder' (by (with_reducible repeat (first | apply Kd.V_alloc | apply Kd.V_drewN | apply Kd.V_drew)); exact HO_329a.out) (Kd.N_base ho37) hb)
        have n2_ := Am (Kd.N_lower ho37 (below_size (by repeat (first | (with_reducible first | exact HB.out | apply below_alloc | apply pw_below_drewN | apply below_drew1 | refine below_set ?_ GE327.out | refine below_set ?_ GE328.out) | exact HB.out))))
        have n3_ := Am (blk_below (g := gb327) (o := .cells #[.slice A0_0 l0_0.length c0_0] 24 (0, 0)) (by (with_reducible repeat (first | refine blk_drewN ?_ _ | refine blk_drew ?_ | refine blk_alloc ?_ _)); exact BK327.out) hb)
        have n4_ := Am (blk_below (g := gb328) (o := .cells #[.slice A1_0 l1_0.length c1_0] 24 (0, 0)) (by (with_reducible repeat (first | refine blk_drewN ?_ _ | refine blk_drew ?_ | refine blk_alloc ?_ _)); exact BK328.out) hb)
        have n5_ := Am (below_step (by repeat (first | (with_reducible first | exact HB.out | apply below_alloc | apply pw_below_drewN | apply below_drew1 | refine below_set ?_ GE327.out | refine below_set ?_ GE328.out) | exact HB.out)) hb)
        clear HO_328a
        clear HO_329a
        clear BK327
        clear BK328
        clear HB
        have HO_328a := n0_
        have HO_329a := n1_
        have HO335 := n2_
        have BK327 := n3_
        have BK328 := n4_
        have HB := n5_
        clear n0_ n1_ n2_ n3_ n4_ n5_
        clear hb ho37
        refine hK.out _ _ ⟨(blk_cell BK327.out 0).trans rfl, (blk_cell BK328.out 0).trans rfl⟩ (fun hHeld => ?_)
        clear hK K
        refine norm_ (a' := ?_) ?_ ?_
        rotate_left
        ·show Act.put _ (some 32) _ = _
         simp only [Act.put, s1_, s2_, s3_, i64_w, i32_w]
         rfl
        refine two_ (i := 3) (j := 8) (Ni := some 35) (Nj := some 7) #[true, true, true, true, true, true, false, false, false, false] PJ1_ rfl rfl rfl rfl (two_of HT_.out (by kernel_rfl)) (by decide) (by decide) (fun K hK => ?_) (fun K hK => ?_)
        ·skip
         refine Kd.N_append_rows_step (Kd.slice 3 (Kd.int .i64)) (w0 := w) w.heap.size (by rfl) (.tmp 32) (.tmp 34) 22 33 (.slice none 0 0) 24 rfl Try.underlying22 info33 rfl (by decide) (by omega) v334 y333 l0_0 _ _ _ (fun k_ => ((P0_0_ k_ ∨ P1_0_ k_) ∨ w.heap.size ≤ k_) ∧ k_ ≠ gb327 ∧ k_ ≠ gb328) (fun k_ => ((fun k_ => ((P0_0_ k_ ∨ P1_0_ k_) ∨ w.heap.size ≤ k_) ∧ k_ ≠ gb327 ∧ k_ ≠ gb328)) k_ ∧ some k_ ≠ (v334 : Value).ownBlock) rfl rfl ?aO ?aR (fun _ hk => hk) ?aF ?aB ?aS ?aL ?_
         (case aR => exact (by skip; exact Kd.V_F (Kd.V_mono (ok' := (fun k_ => ((fun k_ => ((P0_0_ k_ ∨ P1_0_ k_) ∨ w.heap.size ≤ k_) ∧ k_ ≠ gb327 ∧ k_ ≠ gb328)) k_ ∧ some k_ ≠ (v334 : Value).ownBlock)) (HO_328a.out) (fun k_ hk => ⟨⟨hk.1.1, ⟨hk.1.2.1, hk.1.2.2⟩⟩, hk.2⟩))))
         (case aB => exact (by repeat (first | (with_reducible first | exact HB.out | apply below_alloc | apply pw_below_drewN | apply below_drew1 | refine below_set ?_ GE327.out | refine below_set ?_ GE328.out) | exact HB.out)))
         (case aF => exact (fun k_ hk => ⟨(.inr (Nat.le_trans (below_size (by repeat (first | (with_reducible first | exact HB.out | apply below_alloc | apply pw_below_drewN | apply below_drew1 | refine below_set ?_ GE327.out | refine below_set ?_ GE328.out) | exact HB.out))) hk)), Kd.freshB (g := gb327) (o := .cells #[.slice A0_0 l0_0.length c0_0] 24 (0, 0)) (by (with_reducible repeat (first | refine blk_drewN ?_ _ | refine blk_drew ?_ | refine blk_alloc ?_ _)); exact BK327.out) k_ hk, Kd.freshB (g := gb328) (o := .cells #[.slice A1_0 l1_0.length c1_0] 24 (0, 0)) (by (with_reducible repeat (first | refine blk_drewN ?_ _ | refine blk_drew ?_ | refine blk_alloc ?_ _)); exact BK328.out) k_ hk⟩))
         (case aO => exact (by (with_reducible repeat (first | apply Kd.N_alloc | apply Kd.N_drewN | apply Kd.N_drew)); exact HO335.out))
         (case aS => exact (below_size (by repeat (first | (with_reducible first | exact HB.out | apply below_alloc | apply pw_below_drewN | apply below_drew1 | refine below_set ?_ GE327.out | refine below_set ?_ GE328.out) | exact HB.out))))
         (case aL => have := LMc29.out; omega)
         intro v337 w38 ho hb hg hat
         rw [← Ny336.out] at ho
         have n0_ := Am (Kd.V_afterv (ok := (fun k_ => ((P0_0_ k_ ∨ P1_0_ k_) ∨ w.heap.size ≤ k_) ∧ k_ ≠ gb327 ∧ k_ ≠ gb328)) (by (with_reducible repeat (first | apply Kd.V_alloc | apply Kd.V_drewN | apply Kd.V_drew)); exact HO_328a.out) hg hat)
         have n1_ := Am (Kd.V_afterv (ok := (fun k_ => ((P0_0_ k_ ∨ P1_0_ k_) ∨ w.heap.size ≤ k_) ∧ k_ ≠ gb327 ∧ k_ ≠ gb328)) (by (with_reducible repeat (first | apply Kd.V_alloc | apply Kd.V_drewN | apply Kd.V_drew)); exact HO_329a.out) hg hat)
         have n2_ := Am (blk_grown (g := gb327) (o := .cells #[.slice A0_0 l0_0.length c0_0] 24 (0, 0)) (by (with_reducible repeat (first | refine blk_drewN ?_ _ | refine blk_drew ?_ | refine blk_alloc ?_ _)); exact BK327.out) hg (Kd.N_ne HO335.out BK327.out (by decide)))
         have n3_ := Am (blk_grown (g := gb328) (o := .cells #[.slice A1_0 l1_0.length c1_0] 24 (0, 0)) (by (with_reducible repeat (first | refine blk_drewN ?_ _ | refine blk_drew ?_ | refine blk_alloc ?_ _)); exact BK328.out) hg (Kd.N_ne HO335.out BK328.out (by decide)))
         have n4_ := Am (hb)
         have n5_ := Am (ho)
         clear HO_328a
         clear HO_329a
         clear BK327
         clear BK328
         clear HB
         clear HO335
         have HO_328a := n0_
         have HO_329a := n1_
         have BK327 := n2_
         have BK328 := n3_
         have HB := n4_
         have HO338 := n5_
         clear n0_ n1_ n2_ n3_ n4_ n5_
         clear ho hb hg hat
         refine hK.out _ _ ⟨(blk_cell BK327.out 0).trans rfl, (blk_cell BK328.out 0).trans rfl⟩ (fun hHeld => ?_)
         clear hK K
         refine norm_ (a' := ?_) ?_ ?_
         rotate_left
         ·show Act.put _ (some 35) _ = _
          simp only [Act.put, s1_, s2_, s3_, i64_w, i32_w]
          rfl
         refine two_ (i := 6) (j := 8) (Ni := some 38) (Nj := some 7) #[true, true, true, true, true, true, true, false, false, false] PJ2_ rfl rfl rfl rfl (two_of HT_.out (by kernel_rfl)) (by decide) (by decide) (fun K hK => ?_) (fun K hK => ?_)
         ·skip
          refine Kd.N_append_rows_step (Kd.slice 3 (Kd.int .i64)) (w0 := w) w.heap.size (by rfl) (.tmp 35) (.tmp 37) 22 33 (.slice none 0 0) 24 rfl Try.underlying22 info33 rfl (by decide) (by omega) v337 y336 l1_0 _ _ _ (fun k_ => ((P0_0_ k_ ∨ P1_0_ k_) ∨ w.heap.size ≤ k_) ∧ k_ ≠ gb327 ∧ k_ ≠ gb328) (fun k_ => ((fun k_ => ((P0_0_ k_ ∨ P1_0_ k_) ∨ w.heap.size ≤ k_) ∧ k_ ≠ gb327 ∧ k_ ≠ gb328)) k_ ∧ some k_ ≠ (v337 : Value).ownBlock) rfl rfl ?aO ?aR (fun _ hk => hk) ?aF ?aB ?aS ?aL ?_
          (case aR => exact (by skip; exact Kd.V_F (Kd.V_mono (ok' := (fun k_ => ((fun k_ => ((P0_0_ k_ ∨ P1_0_ k_) ∨ w.heap.size ≤ k_) ∧ k_ ≠ gb327 ∧ k_ ≠ gb328)) k_ ∧ some k_ ≠ (v337 : Value).ownBlock)) (HO_329a.out) (fun k_ hk => ⟨⟨hk.1.1, ⟨hk.1.2.1, hk.1.2.2⟩⟩, hk.2⟩))))
          (case aB => exact (by repeat (first | (with_reducible first | exact HB.out | apply below_alloc | apply pw_below_drewN | apply below_drew1 | refine below_set ?_ GE327.out | refine below_set ?_ GE328.out) | exact HB.out)))
          (case aF => exact (fun k_ hk => ⟨(.inr (Nat.le_trans (below_size (by repeat (first | (with_reducible first | exact HB.out | apply below_alloc | apply pw_below_drewN | apply below_drew1 | refine below_set ?_ GE327.out | refine below_set ?_ GE328.out) | exact HB.out))) hk)), Kd.freshB (g := gb327) (o := .cells #[.slice A0_0 l0_0.length c0_0] 24 (0, 0)) (by (with_reducible repeat (first | refine blk_drewN ?_ _ | refine blk_drew ?_ | refine blk_alloc ?_ _)); exact BK327.out) k_ hk, Kd.freshB (g := gb328) (o := .cells #[.slice A1_0 l1_0.length c1_0] 24 (0, 0)) (by (with_reducible repeat (first | refine blk_drewN ?_ _ | refine blk_drew ?_ | refine blk_alloc ?_ _)); exact BK328.out) k_ hk⟩))
          (case aO => exact (by (with_reducible repeat (first | apply Kd.N_alloc | apply Kd.N_drewN | apply Kd.N_drew)); exact HO338.out))
          (case aS => exact (below_size (by repeat (first | (with_reducible first | exact HB.out | apply below_alloc | apply pw_below_drewN | apply below_drew1 | refine below_set ?_ GE327.out | refine below_set ?_ GE328.out) | exact HB.out))))
          (case aL => have := LMc30.out; omega)
          intro v340 w39 ho hb hg hat
          rw [← Ny339.out] at ho
          have n0_ := Am (Kd.V_afterv (ok := (fun k_ => ((P0_0_ k_ ∨ P1_0_ k_) ∨ w.heap.size ≤ k_) ∧ k_ ≠ gb327 ∧ k_ ≠ gb328)) (by (with_reducible repeat (first | apply Kd.V_alloc | apply Kd.V_drewN | apply Kd.V_drew)); exact HO_328a.out) hg hat)
          have n1_ := Am (Kd.V_afterv (ok := (fun k_ => ((P0_0_ k_ ∨ P1_0_ k_) ∨ w.heap.size ≤ k_) ∧ k_ ≠ gb327 ∧ k_ ≠ gb328)) (by (with_reducible repeat (first | apply Kd.V_alloc | apply Kd.V_drewN | apply Kd.V_drew)); exact HO_329a.out) hg hat)
          have n2_ := Am (blk_grown (g := gb327) (o := .cells #[.slice A0_0 l0_0.length c0_0] 24 (0, 0)) (by (with_reducible repeat (first | refine blk_drewN ?_ _ | refine blk_drew ?_ | refine blk_alloc ?_ _)); exact BK327.out) hg (Kd.N_ne HO338.out BK327.out (by decide)))
          have n3_ := Am (blk_grown (g := gb328) (o := .cells #[.slice A1_0 l1_0.length c1_0] 24 (0, 0)) (by (with_reducible repeat (first | refine blk_drewN ?_ _ | refine blk_drew ?_ | refine blk_alloc ?_ _)); exact BK328.out) hg (Kd.N_ne HO338.out BK328.out (by decide)))
          have n4_ := Am (hb)
          have n5_ := Am (ho)
          clear HO_328a
          clear HO_329a
          clear BK327
          clear BK328
          clear HB
          clear HO338
          have HO_328a := n0_
          have HO_329a := n1_
          have BK327 := n2_
          have BK328 := n3_
          have HB := n4_
          have HO341 := n5_
          clear n0_ n1_ n2_ n3_ n4_ n5_
          clear ho hb hg hat
          obtain ⟨Ao40, co40, eo40⟩ := Kd.N_slice HO341.out
          (first | subst eo40 | (injection eo40 with f1_ f2_ f3_; have f4_ := f1_.symm; have f5_ := f3_.symm; clear f1_ f2_ f3_; subst f4_; subst f5_))
          refine hK.out _ _ ⟨(blk_cell BK327.out 0).trans rfl, (blk_cell BK328.out 0).trans rfl⟩ (fun hHeld => ?_)
          clear hK K
          refine norm_ (a' := ?_) ?_ ?_
          rotate_left
          ·show Act.put _ (some 38) _ = _
           simp only [Act.put, s1_, s2_, s3_, i64_w, i32_w]
           rfl
          refine pure_ (i := 7) (N := some 39) (v := ?_) (a' := ?_) #[true, true, true, true, true, true, true, true, false, false] rfl rfl (any_of HT_.out (by kernel_rfl)) (fun _ _ _ h => h) (Or.inl ⟨by rfl, ?_⟩) ?_ ?_
          rotate_left
          ·intro w'
           go_simp
           with_reducible rfl
          rotate_left
          ·simp only [Act.put, s1_, s2_, s3_, i64_w, i32_w]
           rfl
          refine one_ (i := 8) (N := some 7) PJ0_ rfl rfl (one_of HT_.out (by kernel_rfl)) (by decide) (fun K hK => ?_)
          refine box_step ?hg (N := 7) ?hd (cs := #[.slice none 0 0]) (t := 24) ?hr ?_; (case hd => rfl); (case hg => rfl); (case hr => first | (go_simp; done) | (go_simp; rfl))
          intro gb342 hg w41 hbox hb
          have n0_ := Am (Kd.V_below (Kd.V_elderB (by (with_reducible repeat (first | apply Kd.V_alloc | apply Kd.V_drewN | apply Kd.V_drew)); exact HO_328a.out) gb342 (Nat.le_of_eq hg.symm)) hb)
          have n1_ := Am (Kd.V_below (Kd.V_elderB (by (with_reducible repeat (first | apply Kd.V_alloc | apply Kd.V_drewN | apply Kd.V_drew)); exact HO_329a.out) gb342 (Nat.le_of_eq hg.symm)) hb)
          have n2_ := Am (Kd.N_below (Kd.N_elderB (by (with_reducible repeat (first | apply Kd.N_alloc | apply Kd.N_drewN | apply Kd.N_drew)); exact HO341.out) gb342 (Nat.le_of_eq hg.symm)) hb)
          have n3_ := Am (blk_below (g := gb327) (o := .cells #[.slice A0_0 l0_0.length c0_0] 24 (0, 0)) (by (with_reducible repeat (first | refine blk_drewN ?_ _ | refine blk_drew ?_ | refine blk_alloc ?_ _)); exact BK327.out) hb)
          have n4_ := Am (blk_below (g := gb328) (o := .cells #[.slice A1_0 l1_0.length c1_0] 24 (0, 0)) (by (with_reducible repeat (first | refine blk_drewN ?_ _ | refine blk_drew ?_ | refine blk_alloc ?_ _)); exact BK328.out) hb)
          have n5_ := Am (below_step (by repeat (first | (with_reducible first | exact HB.out | apply below_alloc | apply pw_below_drewN | apply below_drew1 | refine below_set ?_ GE327.out | refine below_set ?_ GE328.out) | exact HB.out)) hb)
          have n6_ := Am (hbox)
          have n7_ := Am ((by rw [hg]; exact (below_size (by repeat (first | (with_reducible first | exact HB.out | apply below_alloc | apply pw_below_drewN | apply below_drew1 | refine below_set ?_ GE327.out | refine below_set ?_ GE328.out) | exact HB.out))) : w.heap.size ≤ gb342))
          have n8_ := Am ((by rw [hg]; exact (below_size (by repeat (first | (with_reducible first | exact HB.out | apply below_alloc | apply pw_below_drewN | apply below_drew1 | refine below_set ?_ GE327.out | refine below_set ?_ GE328.out) | exact HB.out))) : w.heap.size ≤ gb342))
          have n9_ := Am ((by rw [hg]; exact Nat.ne_of_lt (blk_lt (g := gb327) (o := .cells #[.slice A0_0 l0_0.length c0_0] 24 (0, 0)) (by (with_reducible repeat (first | refine blk_drewN ?_ _ | refine blk_drew ?_ | refine blk_alloc ?_ _)); exact BK327.out)) : gb327 ≠ gb342))
          have n10_ := Am ((by rw [hg]; exact Nat.ne_of_gt (blk_lt (g := gb327) (o := .cells #[.slice A0_0 l0_0.length c0_0] 24 (0, 0)) (by (with_reducible repeat (first | refine blk_drewN ?_ _ | refine blk_drew ?_ | refine blk_alloc ?_ _)); exact BK327.out)) : gb342 ≠ gb327))
          have n11_ := Am ((by rw [hg]; exact Nat.ne_of_lt (blk_lt (g := gb328) (o := .cells #[.slice A1_0 l1_0.length c1_0] 24 (0, 0)) (by (with_reducible repeat (first | refine blk_drewN ?_ _ | refine blk_drew ?_ | refine blk_alloc ?_ _)); exact BK328.out)) : gb328 ≠ gb342))
          have n12_ := Am ((by rw [hg]; exact Nat.ne_of_gt (blk_lt (g := gb328) (o := .cells #[.slice A1_0 l1_0.length c1_0] 24 (0, 0)) (by (with_reducible repeat (first | refine blk_drewN ?_ _ | refine blk_drew ?_ | refine blk_alloc ?_ _)); exact BK328.out)) : gb342 ≠ gb328))
          clear HO_328a
          clear HO_329a
          clear HO341
          clear BK327
          clear BK328
          clear HB
          have HO_328a := n0_
          have HO_329a := n1_
          have HO341 := n2_
          have BK327 := n3_
          have BK328 := n4_
          have HB := n5_
          have BK342 := n6_
          have GW342 := n7_
          have GE342 := n8_
          have NB327_342 := n9_
          have NB342_327 := n10_
          have NB328_342 := n11_
          have NB342_328 := n12_
          clear n0_ n1_ n2_ n3_ n4_ n5_ n6_ n7_ n8_ n9_ n10_ n11_ n12_
          clear hb hbox hg
          refine hK.out _ _ ⟨(blk_cell BK327.out 0).trans rfl, (blk_cell BK328.out 0).trans rfl⟩ (fun hHeld => ?_)
          clear hK K
          refine norm_ (a' := ?_) ?_ ?_
          rotate_left
          ·show Act.put _ (some 7) _ = _
           simp only [Act.put, s1_, s2_, s3_, i64_w, i32_w]
           rfl
          exact norm_ (by simp only [putAll, Act.put, s1_, s2_, s3_]) (hCont (v334, v337, .slice Ao40 y339.length co40, gb342) _ ⟨hHeld, (by (with_reducible repeat (first | apply Kd.N_alloc | apply Kd.N_drewN | apply Kd.N_drew)); exact Kd.N_mono HO341.out (fun _ hk => ⟨hk.1.1, ⟨hk.1.2.1, ⟨hk.1.2.2, hk.2⟩⟩⟩)), (by (with_reducible repeat (first | apply Kd.V_alloc | apply Kd.V_drewN | apply Kd.V_drew)); exact Kd.V_mono HO_328a.out (fun _ hk => ⟨hk.1.1.1, ⟨hk.1.2, ⟨hk.1.1.2.1, ⟨hk.1.1.2.2, hk.2⟩⟩⟩⟩)), (by (with_reducible repeat (first | apply Kd.V_alloc | apply Kd.V_drewN | apply Kd.V_drew)); exact Kd.V_mono HO_329a.out (fun _ hk => ⟨hk.1.1.1, ⟨hk.1.2, ⟨hk.1.1.2.1, ⟨hk.1.1.2.2, hk.2⟩⟩⟩⟩)), (by (with_reducible repeat (first | refine blk_drewN ?_ _ | refine blk_drew ?_ | refine blk_alloc ?_ _)); exact BK327.out), (by (with_reducible repeat (first | refine blk_drewN ?_ _ | refine blk_drew ?_ | refine blk_alloc ?_ _)); exact BK328.out), (by (with_reducible repeat (first | refine blk_drewN ?_ _ | refine blk_drew ?_ | refine blk_alloc ?_ _)); exact BK342.out), GW342.out, GE342.out, NB327_342.out, NB342_327.out, NB328_342.out, NB342_328.out, (by repeat (first | (with_reducible first | exact HB.out | apply below_alloc | apply pw_below_drewN | apply below_drew1 | refine below_set ?_ GE327.out | refine below_set ?_ GE328.out | refine below_set ?_ GE342.out) | exact HB.out))⟩)
         ·skip
          refine box_step ?hg (N := 7) ?hd (cs := #[.slice none 0 0]) (t := 24) ?hr ?_; (case hd => rfl); (case hg => rfl); (case hr => first | (go_simp; done) | (go_simp; rfl))
          intro gb342 hg w39 hbox hb
          have n0_ := Am (Kd.V_below (Kd.V_elderB (by (with_reducible repeat (first | apply Kd.V_alloc | apply Kd.V_drewN | apply Kd.V_drew)); exact HO_328a.out) gb342 (Nat.le_of_eq hg.symm)) hb)
          have n1_ := Am (Kd.V_below (Kd.V_elderB (by (with_reducible repeat (first | apply Kd.V_alloc | apply Kd.V_drewN | apply Kd.V_drew)); exact HO_329a.out) gb342 (Nat.le_of_eq hg.symm)) hb)
          have n2_ := Am (Kd.N_below (Kd.N_elderB (by (with_reducible repeat (first | apply Kd.N_alloc | apply Kd.N_drewN | apply Kd.N_drew)); exact HO338.out) gb342 (Nat.le_of_eq hg.symm)) hb)
          have n3_ := Am (blk_below (g := gb327) (o := .cells #[.slice A0_0 l0_0.length c0_0] 24 (0, 0)) (by (with_reducible repeat (first | refine blk_drewN ?_ _ | refine blk_drew ?_ | refine blk_alloc ?_ _)); exact BK327.out) hb)
          have n4_ := Am (blk_below (g := gb328) (o := .cells #[.slice A1_0 l1_0.length c1_0] 24 (0, 0)) (by (with_reducible repeat (first | refine blk_drewN ?_ _ | refine blk_drew ?_ | refine blk_alloc ?_ _)); exact BK328.out) hb)
          have n5_ := Am (below_step (by repeat (first | (with_reducible first | exact HB.out | apply below_alloc | apply pw_below_drewN | apply below_drew1 | refine below_set ?_ GE327.out | refine below_set ?_ GE328.out) | exact HB.out)) hb)
          have n6_ := Am (hbox)
          have n7_ := Am ((by rw [hg]; exact (below_size (by repeat (first | (with_reducible first | exact HB.out | apply below_alloc | apply pw_below_drewN | apply below_drew1 | refine below_set ?_ GE327.out | refine below_set ?_ GE328.out) | exact HB.out))) : w.heap.size ≤ gb342))
          have n8_ := Am ((by rw [hg]; exact (below_size (by repeat (first | (with_reducible first | exact HB.out | apply below_alloc | apply pw_below_drewN | apply below_drew1 | refine below_set ?_ GE327.out | refine below_set ?_ GE328.out) | exact HB.out))) : w.heap.size ≤ gb342))
          have n9_ := Am ((by rw [hg]; exact Nat.ne_of_lt (blk_lt (g := gb327) (o := .cells #[.slice A0_0 l0_0.length c0_0] 24 (0, 0)) (by (with_reducible repeat (first | refine blk_drewN ?_ _ | refine blk_drew ?_ | refine blk_alloc ?_ _)); exact BK327.out)) : gb327 ≠ gb342))
          have n10_ := Am ((by rw [hg]; exact Nat.ne_of_gt (blk_lt (g := gb327) (o := .cells #[.slice A0_0 l0_0.length c0_0] 24 (0, 0)) (by (with_reducible repeat (first | refine blk_drewN ?_ _ | refine blk_drew ?_ | refine blk_alloc ?_ _)); exact BK327.out)) : gb342 ≠ gb327))
          have n11_ := Am ((by rw [hg]; exact Nat.ne_of_lt (blk_lt (g := gb328) (o := .cells #[.slice A1_0 l1_0.length c1_0] 24 (0, 0)) (by (with_reducible repeat (first | refine blk_drewN ?_ _ | refine blk_drew ?_ | refine blk_alloc ?_ _)); exact BK328.out)) : gb328 ≠ gb342))
          have n12_ := Am ((by rw [hg]; exact Nat.ne_of_gt (blk_lt (g := gb328) (o := .cells #[.slice A1_0 l1_0.length c1_0] 24 (0, 0)) (by (with_reducible repeat (first | refine blk_drewN ?_ _ | refine blk_drew ?_ | refine blk_alloc ?_ _)); exact BK328.out)) : gb342 ≠ gb328))
          clear HO_328a
          clear HO_329a
          clear HO338
          clear BK327
          clear BK328
          clear HB
          have HO_328a := n0_
          have HO_329a := n1_
          have HO338 := n2_
          have BK327 := n3_
          have BK328 := n4_
          have HB := n5_
          have BK342 := n6_
          have GW342 := n7_
          have GE342 := n8_
          have NB327_342 := n9_
          have NB342_327 := n10_
          have NB328_342 := n11_
          have NB342_328 := n12_
          clear n0_ n1_ n2_ n3_ n4_ n5_ n6_ n7_ n8_ n9_ n10_ n11_ n12_
          clear hb hbox hg
          refine hK.out _ _ ⟨(blk_cell BK327.out 0).trans rfl, (blk_cell BK328.out 0).trans rfl⟩ (fun hHeld => ?_)
          clear hK K
          refine norm_ (a' := ?_) ?_ ?_
          rotate_left
          ·show Act.put _ (some 7) _ = _
           simp only [Act.put, s1_, s2_, s3_, i64_w, i32_w]
           rfl
          refine one_ (i := 6) (N := some 38) PJ3_ rfl rfl (one_of HT_.out (by kernel_rfl)) (by decide) (fun K hK => ?_)
          refine Kd.N_append_rows_step (Kd.slice 3 (Kd.int .i64)) (w0 := w) w.heap.size (by rfl) (.tmp 35) (.tmp 37) 22 33 (.slice none 0 0) 24 rfl Try.underlying22 info33 rfl (by decide) (by omega) v337 y336 l1_0 _ _ _ (fun k_ => ((P0_0_ k_ ∨ P1_0_ k_) ∨ w.heap.size ≤ k_) ∧ k_ ≠ gb327 ∧ k_ ≠ gb328 ∧ k_ ≠ gb342) (fun k_ => ((fun k_ => ((P0_0_ k_ ∨ P1_0_ k_) ∨ w.heap.size ≤ k_) ∧ k_ ≠ gb327 ∧ k_ ≠ gb328 ∧ k_ ≠ gb342)) k_ ∧ some k_ ≠ (v337 : Value).ownBlock) rfl rfl ?aO ?aR (fun _ hk => hk) ?aF ?aB ?aS ?aL ?_
          (case aR => exact (by skip; exact Kd.V_F (Kd.V_mono (ok' := (fun k_ => ((fun k_ => ((P0_0_ k_ ∨ P1_0_ k_) ∨ w.heap.size ≤ k_) ∧ k_ ≠ gb327 ∧ k_ ≠ gb328 ∧ k_ ≠ gb342)) k_ ∧ some k_ ≠ (v337 : Value).ownBlock)) (HO_329a.out) (fun k_ hk => ⟨⟨hk.1.1.1, ⟨hk.1.1.2.1, ⟨hk.1.1.2.2, hk.2⟩⟩⟩, hk.1.2⟩))))
          (case aB => exact (by repeat (first | (with_reducible first | exact HB.out | apply below_alloc | apply pw_below_drewN | apply below_drew1 | refine below_set ?_ GE327.out | refine below_set ?_ GE328.out | refine below_set ?_ GE342.out) | exact HB.out)))
          (case aF => exact (fun k_ hk => ⟨(.inr (Nat.le_trans (below_size (by repeat (first | (with_reducible first | exact HB.out | apply below_alloc | apply pw_below_drewN | apply below_drew1 | refine below_set ?_ GE327.out | refine below_set ?_ GE328.out | refine below_set ?_ GE342.out) | exact HB.out))) hk)), Kd.freshB (g := gb327) (o := .cells #[.slice A0_0 l0_0.length c0_0] 24 (0, 0)) (by (with_reducible repeat (first | refine blk_drewN ?_ _ | refine blk_drew ?_ | refine blk_alloc ?_ _)); exact BK327.out) k_ hk, Kd.freshB (g := gb328) (o := .cells #[.slice A1_0 l1_0.length c1_0] 24 (0, 0)) (by (with_reducible repeat (first | refine blk_drewN ?_ _ | refine blk_drew ?_ | refine blk_alloc ?_ _)); exact BK328.out) k_ hk, Kd.freshB (g := gb342) (o := .cells #[.slice none 0 0] 24 (0, 0)) (by (with_reducible repeat (first | refine blk_drewN ?_ _ | refine blk_drew ?_ | refine blk_alloc ?_ _)); exact BK342.out) k_ hk⟩))
          (case aO => exact (by (with_reducible repeat (first | apply Kd.N_alloc | apply Kd.N_drewN | apply Kd.N_drew)); exact Kd.N_mono HO338.out (fun _ hk => ⟨hk.1.1, ⟨hk.1.2.1, ⟨hk.1.2.2, hk.2⟩⟩⟩)))
          (case aS => exact (below_size (by repeat (first | (with_reducible first | exact HB.out | apply below_alloc | apply pw_below_drewN | apply below_drew1 | refine below_set ?_ GE327.out | refine below_set ?_ GE328.out | refine below_set ?_ GE342.out) | exact HB.out))))
          (case aL => have := LMc30.out; omega)
          intro v340 w40 ho hb hg hat
          rw [← Ny339.out] at ho
          have n0_ := Am (Kd.V_afterv (ok := (fun k_ => ((P0_0_ k_ ∨ P1_0_ k_) ∨ w.heap.size ≤ k_) ∧ k_ ≠ gb327 ∧ k_ ≠ gb328 ∧ k_ ≠ gb342)) (by (with_reducible repeat (first | apply Kd.V_alloc | apply Kd.V_drewN | apply Kd.V_drew)); exact Kd.V_mono HO_328a.out (fun _ hk => ⟨⟨hk.1.1.1, ⟨hk.1.1.2.1, ⟨hk.1.1.2.2, hk.2⟩⟩⟩, hk.1.2⟩)) hg hat)
          have n1_ := Am (Kd.V_afterv (ok := (fun k_ => ((P0_0_ k_ ∨ P1_0_ k_) ∨ w.heap.size ≤ k_) ∧ k_ ≠ gb327 ∧ k_ ≠ gb328 ∧ k_ ≠ gb342)) (by (with_reducible repeat (first | apply Kd.V_alloc | apply Kd.V_drewN | apply Kd.V_drew)); exact Kd.V_mono HO_329a.out (fun _ hk => ⟨⟨hk.1.1.1, ⟨hk.1.1.2.1, ⟨hk.1.1.2.2, hk.2⟩⟩⟩, hk.1.2⟩)) hg hat)
          have n2_ := Am (blk_grown (g := gb327) (o := .cells #[.slice A0_0 l0_0.length c0_0] 24 (0, 0)) (by (with_reducible repeat (first | refine blk_drewN ?_ _ | refine blk_drew ?_ | refine blk_alloc ?_ _)); exact BK327.out) hg (Kd.N_ne HO338.out BK327.out (by decide)))
          have n3_ := Am (blk_grown (g := gb328) (o := .cells #[.slice A1_0 l1_0.length c1_0] 24 (0, 0)) (by (with_reducible repeat (first | refine blk_drewN ?_ _ | refine blk_drew ?_ | refine blk_alloc ?_ _)); exact BK328.out) hg (Kd.N_ne HO338.out BK328.out (by decide)))
          have n4_ := Am (blk_grown (g := gb342) (o := .cells #[.slice none 0 0] 24 (0, 0)) (by (with_reducible repeat (first | refine blk_drewN ?_ _ | refine blk_drew ?_ | refine blk_alloc ?_ _)); exact BK342.out) hg (Kd.N_ne HO338.out BK342.out (by decide)))
          have n5_ := Am (hb)
          have n6_ := Am (ho)
          clear HO_328a
          clear HO_329a
          clear BK327
          clear BK328
          clear BK342
          clear HB
          clear HO338
          have HO_328a := n0_
          have HO_329a := n1_
          have BK327 := n2_
          have BK328 := n3_
          have BK342 := n4_
          have HB := n5_
          have HO341 := n6_
          clear n0_ n1_ n2_ n3_ n4_ n5_ n6_
          clear ho hb hg hat
          obtain ⟨Ao41, co41, eo41⟩ := Kd.N_slice HO341.out
          (first | subst eo41 | (injection eo41 with f1_ f2_ f3_; have f4_ := f1_.symm; have f5_ := f3_.symm; clear f1_ f2_ f3_; subst f4_; subst f5_))
          refine hK.out _ _ ⟨(blk_cell BK327.out 0).trans rfl, (blk_cell BK328.out 0).trans rfl⟩ (fun hHeld => ?_)
          clear hK K
          refine norm_ (a' := ?_) ?_ ?_
          rotate_left
          ·show Act.put _ (some 38) _ = _
           simp only [Act.put, s1_, s2_, s3_, i64_w, i32_w]
           rfl
          refine pure_ (i := 7) (N := some 39) (v := ?_) (a' := ?_) PJ0_ rfl rfl (any_of HT_.out (by kernel_rfl)) (fun _ _ _ h => h) (Or.inl ⟨by rfl, ?_⟩) ?_ ?_
          rotate_left
          ·intro w'
           go_simp
           with_reducible rfl
          rotate_left
          ·simp only [Act.put, s1_, s2_, s3_, i64_w, i32_w]
           rfl
          exact norm_ (by simp only [putAll, Act.put, s1_, s2_, s3_]) (hCont (v334, v337, .slice Ao41 y339.length co41, gb342) _ ⟨hHeld, (by (with_reducible repeat (first | apply Kd.N_alloc | apply Kd.N_drewN | apply Kd.N_drew)); exact HO341.out), (by (with_reducible repeat (first | apply Kd.V_alloc | apply Kd.V_drewN | apply Kd.V_drew)); exact Kd.V_mono HO_328a.out (fun _ hk => ⟨hk.1.1, ⟨hk.2, ⟨hk.1.2.1, ⟨hk.1.2.2.1, hk.1.2.2.2⟩⟩⟩⟩)), (by (with_reducible repeat (first | apply Kd.V_alloc | apply Kd.V_drewN | apply Kd.V_drew)); exact Kd.V_mono HO_329a.out (fun _ hk => ⟨hk.1.1, ⟨hk.2, ⟨hk.1.2.1, ⟨hk.1.2.2.1, hk.1.2.2.2⟩⟩⟩⟩)), (by (with_reducible repeat (first | refine blk_drewN ?_ _ | refine blk_drew ?_ | refine blk_alloc ?_ _)); exact BK327.out), (by (with_reducible repeat (first | refine blk_drewN ?_ _ | refine blk_drew ?_ | refine blk_alloc ?_ _)); exact BK328.out), (by (with_reducible repeat (first | refine blk_drewN ?_ _ | refine blk_drew ?_ | refine blk_alloc ?_ _)); exact BK342.out), GW342.out, GE342.out, NB327_342.out, NB342_327.out, NB328_342.out, NB342_328.out, (by repeat (first | (with_reducible first | exact HB.out | apply below_alloc | apply pw_below_drewN | apply below_drew1 | refine below_set ?_ GE327.out | refine below_set ?_ GE328.out | refine below_set ?_ GE342.out) | exact HB.out))⟩)
        ·skip
         refine box_step ?hg (N := 7) ?hd (cs := #[.slice none 0 0]) (t := 24) ?hr ?_; (case hd => rfl); (case hg => rfl); (case hr => first | (go_simp; done) | (go_simp; rfl))
         intro gb342 hg w38 hbox hb
         have n0_ := Am (Kd.V_below (Kd.V_elderB (by (with_reducible repeat (first | apply Kd.V_alloc | apply Kd.V_drewN | apply Kd.V_drew)); exact HO_328a.out) gb342 (Nat.le_of_eq hg.symm)) hb)
         have n1_ := Am (Kd.V_below (Kd.V_elderB (by (with_reducible repeat (first | apply Kd.V_alloc | apply Kd.V_drewN | apply Kd.V_drew)); exact HO_329a.out) gb342 (Nat.le_of_eq hg.symm)) hb)
         have n2_ := Am (Kd.N_below (Kd.N_elderB (by (with_reducible repeat (first | apply Kd.N_alloc | apply Kd.N_drewN | apply Kd.N_drew)); exact HO335.out) gb342 (Nat.le_of_eq hg.symm)) hb)
         have n3_ := Am (blk_below (g := gb327) (o := .cells #[.slice A0_0 l0_0.length c0_0] 24 (0, 0)) (by (with_reducible repeat (first | refine blk_drewN ?_ _ | refine blk_drew ?_ | refine blk_alloc ?_ _)); exact BK327.out) hb)
         have n4_ := Am (blk_below (g := gb328) (o := .cells #[.slice A1_0 l1_0.length c1_0] 24 (0, 0)) (by (with_reducible repeat (first | refine blk_drewN ?_ _ | refine blk_drew ?_ | refine blk_alloc ?_ _)); exact BK328.out) hb)
         have n5_ := Am (below_step (by repeat (first | (with_reducible first | exact HB.out | apply below_alloc | apply pw_below_drewN | apply below_drew1 | refine below_set ?_ GE327.out | refine below_set ?_ GE328.out) | exact HB.out)) hb)
         have n6_ := Am (hbox)
         have n7_ := Am ((by rw [hg]; exact (below_size (by repeat (first | (with_reducible first | exact HB.out | apply below_alloc | apply pw_below_drewN | apply below_drew1 | refine below_set ?_ GE327.out | refine below_set ?_ GE328.out) | exact HB.out))) : w.heap.size ≤ gb342))
         have n8_ := Am ((by rw [hg]; exact (below_size (by repeat (first | (with_reducible first | exact HB.out | apply below_alloc | apply pw_below_drewN | apply below_drew1 | refine below_set ?_ GE327.out | refine below_set ?_ GE328.out) | exact HB.out))) : w.heap.size ≤ gb342))
         have n9_ := Am ((by rw [hg]; exact Nat.ne_of_lt (blk_lt (g := gb327) (o := .cells #[.slice A0_0 l0_0.length c0_0] 24 (0, 0)) (by (with_reducible repeat (first | refine blk_drewN ?_ _ | refine blk_drew ?_ | refine blk_alloc ?_ _)); exact BK327.out)) : gb327 ≠ gb342))
         have n10_ := Am ((by rw [hg]; exact Nat.ne_of_gt (blk_lt (g := gb327) (o := .cells #[.slice A0_0 l0_0.length c0_0] 24 (0, 0)) (by (with_reducible repeat (first | refine blk_drewN ?_ _ | refine blk_drew ?_ | refine blk_alloc ?_ _)); exact BK327.out)) : gb342 ≠ gb327))
         have n11_ := Am ((by rw [hg]; exact Nat.ne_of_lt (blk_lt (g := gb328) (o := .cells #[.slice A1_0 l1_0.length c1_0] 24 (0, 0)) (by (with_reducible repeat (first | refine blk_drewN ?_ _ | refine blk_drew ?_ | refine blk_alloc ?_ _)); exact BK328.out)) : gb328 ≠ gb342))
         have n12_ := Am ((by rw [hg]; exact Nat.ne_of_gt (blk_lt (g := gb328) (o := .cells #[.slice A1_0 l1_0.length c1_0] 24 (0, 0)) (by (with_reducible repeat (first | refine blk_drewN ?_ _ | refine blk_drew ?_ | refine blk_alloc ?_ _)); exact BK328.out)) : gb342 ≠ gb328))
         clear HO_328a
         clear HO_329a
         clear HO335
         clear BK327
         clear BK328
         clear HB
         have HO_328a := n0_
         have HO_329a := n1_
         have HO335 := n2_
         have BK327 := n3_
         have BK328 := n4_
         have HB := n5_
         have BK342 := n6_
         have GW342 := n7_
         have GE342 := n8_
         have NB327_342 := n9_
         have NB342_327 := n10_
         have NB328_342 := n11_
         have NB342_328 := n12_
         clear n0_ n1_ n2_ n3_ n4_ n5_ n6_ n7_ n8_ n9_ n10_ n11_ n12_
         clear hb hbox hg
         refine hK.out _ _ ⟨(blk_cell BK327.out 0).trans rfl, (blk_cell BK328.out 0).trans rfl⟩ (fun hHeld => ?_)
         clear hK K
         refine norm_ (a' := ?_) ?_ ?_
         rotate_left
         ·show Act.put _ (some 7) _ = _
          simp only [Act.put, s1_, s2_, s3_, i64_w, i32_w]
          rfl
         refine one_ (i := 3) (N := some 35) PJ2_ rfl rfl (one_of HT_.out (by kernel_rfl)) (by decide) (fun K hK => ?_)
         refine Kd.N_append_rows_step (Kd.slice 3 (Kd.int .i64)) (w0 := w) w.heap.size (by rfl) (.tmp 32) (.tmp 34) 22 33 (.slice none 0 0) 24 rfl Try.underlying22 info33 rfl (by decide) (by omega) v334 y333 l0_0 _ _ _ (fun k_ => ((P0_0_ k_ ∨ P1_0_ k_) ∨ w.heap.size ≤ k_) ∧ k_ ≠ gb327 ∧ k_ ≠ gb328 ∧ k_ ≠ gb342) (fun k_ => ((fun k_ => ((P0_0_ k_ ∨ P1_0_ k_) ∨ w.heap.size ≤ k_) ∧ k_ ≠ gb327 ∧ k_ ≠ gb328 ∧ k_ ≠ gb342)) k_ ∧ some k_ ≠ (v334 : Value).ownBlock) rfl rfl ?aO ?aR (fun _ hk => hk) ?aF ?aB ?aS ?aL ?_
         (case aR => exact (by skip; exact Kd.V_F (Kd.V_mono (ok' := (fun k_ => ((fun k_ => ((P0_0_ k_ ∨ P1_0_ k_) ∨ w.heap.size ≤ k_) ∧ k_ ≠ gb327 ∧ k_ ≠ gb328 ∧ k_ ≠ gb342)) k_ ∧ some k_ ≠ (v334 : Value).ownBlock)) (HO_328a.out) (fun k_ hk => ⟨⟨hk.1.1.1, ⟨hk.1.1.2.1, ⟨hk.1.1.2.2, hk.2⟩⟩⟩, hk.1.2⟩))))
         (case aB => exact (by repeat (first | (with_reducible first | exact HB.out | apply below_alloc | apply pw_below_drewN | apply below_drew1 | refine below_set ?_ GE327.out | refine below_set ?_ GE328.out | refine below_set ?_ GE342.out) | exact HB.out)))
         (case aF => exact (fun k_ hk => ⟨(.inr (Nat.le_trans (below_size (by repeat (first | (with_reducible first | exact HB.out | apply below_alloc | apply pw_below_drewN | apply below_drew1 | refine below_set ?_ GE327.out | refine below_set ?_ GE328.out | refine below_set ?_ GE342.out) | exact HB.out))) hk)), Kd.freshB (g := gb327) (o := .cells #[.slice A0_0 l0_0.length c0_0] 24 (0, 0)) (by (with_reducible repeat (first | refine blk_drewN ?_ _ | refine blk_drew ?_ | refine blk_alloc ?_ _)); exact BK327.out) k_ hk, Kd.freshB (g := gb328) (o := .cells #[.slice A1_0 l1_0.length c1_0] 24 (0, 0)) (by (with_reducible repeat (first | refine blk_drewN ?_ _ | refine blk_drew ?_ | refine blk_alloc ?_ _)); exact BK328.out) k_ hk, Kd.freshB (g := gb342) (o := .cells #[.slice none 0 0] 24 (0, 0)) (by (with_reducible repeat (first | refine blk_drewN ?_ _ | refine blk_drew ?_ | refine blk_alloc ?_ _)); exact BK342.out) k_ hk⟩))
         (case aO => exact (by (with_reducible repeat (first | apply Kd.N_alloc | apply Kd.N_drewN | apply Kd.N_drew)); exact Kd.N_mono HO335.out (fun _ hk => ⟨hk.1.1, ⟨hk.1.2.1, ⟨hk.1.2.2, hk.2⟩⟩⟩)))
         (case aS => exact (below_size (by repeat (first | (with_reducible first | exact HB.out | apply below_alloc | apply pw_below_drewN | apply below_drew1 | refine below_set ?_ GE327.out | refine below_set ?_ GE328.out | refine below_set ?_ GE342.out) | exact HB.out))))
         (case aL => have := LMc29.out; omega)
         intro v337 w39 ho hb hg hat
         rw [← Ny336.out] at ho
         have n0_ := Am (Kd.V_afterv (ok := (fun k_ => ((P0_0_ k_ ∨ P1_0_ k_) ∨ w.heap.size ≤ k_) ∧ k_ ≠ gb327 ∧ k_ ≠ gb328 ∧ k_ ≠ gb342)) (by (with_reducible repeat (first | apply Kd.V_alloc | apply Kd.V_drewN | apply Kd.V_drew)); exact Kd.V_mono HO_328a.out (fun _ hk => ⟨⟨hk.1.1.1, ⟨hk.1.1.2.1, ⟨hk.1.1.2.2, hk.2⟩⟩⟩, hk.1.2⟩)) hg hat)
         have n1_ := Am (Kd.V_afterv (ok := (fun k_ => ((P0_0_ k_ ∨ P1_0_ k_) ∨ w.heap.size ≤ k_) ∧ k_ ≠ gb327 ∧ k_ ≠ gb328 ∧ k_ ≠ gb342)) (by (with_reducible repeat (first | apply Kd.V_alloc | apply Kd.V_drewN | apply Kd.V_drew)); exact Kd.V_mono HO_329a.out (fun _ hk => ⟨⟨hk.1.1.1, ⟨hk.1.1.2.1, ⟨hk.1.1.2.2, hk.2⟩⟩⟩, hk.1.2⟩)) hg hat)
         have n2_ := Am (blk_grown (g := gb327) (o := .cells #[.slice A0_0 l0_0.length c0_0] 24 (0, 0)) (by (with_reducible repeat (first | refine blk_drewN ?_ _ | refine blk_drew ?_ | refine blk_alloc ?_ _)); exact BK327.out) hg (Kd.N_ne HO335.out BK327.out (by decide)))
         have n3_ := Am (blk_grown (g := gb328) (o := .cells #[.slice A1_0 l1_0.length c1_0] 24 (0, 0)) (by (with_reducible repeat (first | refine blk_drewN ?_ _ | refine blk_drew ?_ | refine blk_alloc ?_ _)); exact BK328.out) hg (Kd.N_ne HO335.out BK328.out (by decide)))
         have n4_ := Am (blk_grown (g := gb342) (o := .cells #[.slice none 0 0] 24 (0, 0)) (by (with_reducible repeat (first | refine blk_drewN ?_ _ | refine blk_drew ?_ | refine blk_alloc ?_ _)); exact BK342.out) hg (Kd.N_ne HO335.out BK342.out (by decide)))
         have n5_ := Am (hb)
         have n6_ := Am (ho)
         clear HO_328a
         clear HO_329a
         clear BK327
         clear BK328
         clear BK342
         clear HB
         clear HO335
         have HO_328a := n0_
         have HO_329a := n1_
         have BK327 := n2_
         have BK328 := n3_
         have BK342 := n4_
         have HB := n5_
         have HO338 := n6_
         clear n0_ n1_ n2_ n3_ n4_ n5_ n6_
         clear ho hb hg hat
         refine hK.out _ _ ⟨(blk_cell BK327.out 0).trans rfl, (blk_cell BK328.out 0).trans rfl⟩ (fun hHeld => ?_)
         clear hK K
         refine norm_ (a' := ?_) ?_ ?_
         rotate_left
         ·show Act.put _ (some 35) _ = _
          simp only [Act.put, s1_, s2_, s3_, i64_w, i32_w]
          rfl
         refine one_ (i := 6) (N := some 38) PJ3_ rfl rfl (one_of HT_.out (by kernel_rfl)) (by decide) (fun K hK => ?_)
         refine Kd.N_append_rows_step (Kd.slice 3 (Kd.int .i64)) (w0 := w) w.heap.size (by rfl) (.tmp 35) (.tmp 37) 22 33 (.slice none 0 0) 24 rfl Try.underlying22 info33 rfl (by decide) (by omega) v337 y336 l1_0 _ _ _ (fun k_ => ((P0_0_ k_ ∨ P1_0_ k_) ∨ w.heap.size ≤ k_) ∧ k_ ≠ gb327 ∧ k_ ≠ gb328 ∧ k_ ≠ gb342) (fun k_ => ((fun k_ => ((P0_0_ k_ ∨ P1_0_ k_) ∨ w.heap.size ≤ k_) ∧ k_ ≠ gb327 ∧ k_ ≠ gb328 ∧ k_ ≠ gb342)) k_ ∧ some k_ ≠ (v337 : Value).ownBlock) rfl rfl ?aO ?aR (fun _ hk => hk) ?aF ?aB ?aS ?aL ?_
         (case aR => exact (by skip; exact Kd.V_F (Kd.V_mono (ok' := (fun k_ => ((fun k_ => ((P0_0_ k_ ∨ P1_0_ k_) ∨ w.heap.size ≤ k_) ∧ k_ ≠ gb327 ∧ k_ ≠ gb328 ∧ k_ ≠ gb342)) k_ ∧ some k_ ≠ (v337 : Value).ownBlock)) (HO_329a.out) (fun k_ hk => ⟨⟨hk.1.1, ⟨hk.1.2.1, ⟨hk.1.2.2.1, hk.1.2.2.2⟩⟩⟩, hk.2⟩))))
         (case aB => exact (by repeat (first | (with_reducible first | exact HB.out | apply below_alloc | apply pw_below_drewN | apply below_drew1 | refine below_set ?_ GE327.out | refine below_set ?_ GE328.out | refine below_set ?_ GE342.out) | exact HB.out)))
         (case aF => exact (fun k_ hk => ⟨(.inr (Nat.le_trans (below_size (by repeat (first | (with_reducible first | exact HB.out | apply below_alloc | apply pw_below_drewN | apply below_drew1 | refine below_set ?_ GE327.out | refine below_set ?_ GE328.out | refine below_set ?_ GE342.out) | exact HB.out))) hk)), Kd.freshB (g := gb327) (o := .cells #[.slice A0_0 l0_0.length c0_0] 24 (0, 0)) (by (with_reducible repeat (first | refine blk_drewN ?_ _ | refine blk_drew ?_ | refine blk_alloc ?_ _)); exact BK327.out) k_ hk, Kd.freshB (g := gb328) (o := .cells #[.slice A1_0 l1_0.length c1_0] 24 (0, 0)) (by (with_reducible repeat (first | refine blk_drewN ?_ _ | refine blk_drew ?_ | refine blk_alloc ?_ _)); exact BK328.out) k_ hk, Kd.freshB (g := gb342) (o := .cells #[.slice none 0 0] 24 (0, 0)) (by (with_reducible repeat (first | refine blk_drewN ?_ _ | refine blk_drew ?_ | refine blk_alloc ?_ _)); exact BK342.out) k_ hk⟩))
         (case aO => exact (by (with_reducible repeat (first | apply Kd.N_alloc | apply Kd.N_drewN | apply Kd.N_drew)); exact HO338.out))
         (case aS => exact (below_size (by repeat (first | (with_reducible first | exact HB.out | apply below_alloc | apply pw_below_drewN | apply below_drew1 | refine below_set ?_ GE327.out | refine below_set ?_ GE328.out | refine below_set ?_ GE342.out) | exact HB.out))))
         (case aL => have := LMc30.out; omega)
         intro v340 w40 ho hb hg hat
         rw [← Ny339.out] at ho
         have n0_ := Am (Kd.V_afterv (ok := (fun k_ => ((P0_0_ k_ ∨ P1_0_ k_) ∨ w.heap.size ≤ k_) ∧ k_ ≠ gb327 ∧ k_ ≠ gb328 ∧ k_ ≠ gb342)) (by (with_reducible repeat (first | apply Kd.V_alloc | apply Kd.V_drewN | apply Kd.V_drew)); exact HO_328a.out) hg hat)
         have n1_ := Am (Kd.V_afterv (ok := (fun k_ => ((P0_0_ k_ ∨ P1_0_ k_) ∨ w.heap.size ≤ k_) ∧ k_ ≠ gb327 ∧ k_ ≠ gb328 ∧ k_ ≠ gb342)) (by (with_reducible repeat (first | apply Kd.V_alloc | apply Kd.V_drewN | apply Kd.V_drew)); exact HO_329a.out) hg hat)
         have n2_ := Am (blk_grown (g := gb327) (o := .cells #[.slice A0_0 l0_0.length c0_0] 24 (0, 0)) (by (with_reducible repeat (first | refine blk_drewN ?_ _ | refine blk_drew ?_ | refine blk_alloc ?_ _)); exact BK327.out) hg (Kd.N_ne HO338.out BK327.out (by decide)))
         have n3_ := Am (blk_grown (g := gb328) (o := .cells #[.slice A1_0 l1_0.length c1_0] 24 (0, 0)) (by (with_reducible repeat (first | refine blk_drewN ?_ _ | refine blk_drew ?_ | refine blk_alloc ?_ _)); exact BK328.out) hg (Kd.N_ne HO338.out BK328.out (by decide)))
         have n4_ := Am (blk_grown (g := gb342) (o := .cells #[.slice none 0 0] 24 (0, 0)) (by (with_reducible repeat (first | refine blk_drewN ?_ _ | refine blk_drew ?_ | refine blk_alloc ?_ _)); exact BK342.out) hg (Kd.N_ne HO338.out BK342.out (by decide)))
         have n5_ := Am (hb)
         have n6_ := Am (ho)
         clear HO_328a
         clear HO_329a
         clear BK327
         clear BK328
         clear BK342
         clear HB
         clear HO338
         have HO_328a := n0_
         have HO_329a := n1_
         have BK327 := n2_
         have BK328 := n3_
         have BK342 := n4_
         have HB := n5_
         have HO341 := n6_
         clear n0_ n1_ n2_ n3_ n4_ n5_ n6_
         clear ho hb hg hat
         obtain ⟨Ao41, co41, eo41⟩ := Kd.N_slice HO341.out
         (first | subst eo41 | (injection eo41 with f1_ f2_ f3_; have f4_ := f1_.symm; have f5_ := f3_.symm; clear f1_ f2_ f3_; subst f4_; subst f5_))
         refine hK.out _ _ ⟨(blk_cell BK327.out 0).trans rfl, (blk_cell BK328.out 0).trans rfl⟩ (fun hHeld => ?_)
         clear hK K
         refine norm_ (a' := ?_) ?_ ?_
         rotate_left
         ·show Act.put _ (some 38) _ = _
          simp only [Act.put, s1_, s2_, s3_, i64_w, i32_w]
          rfl
         refine pure_ (i := 7) (N := some 39) (v := ?_) (a' := ?_) PJ0_ rfl rfl (any_of HT_.out (by kernel_rfl)) (fun _ _ _ h => h) (Or.inl ⟨by rfl, ?_⟩) ?_ ?_
         rotate_left
         ·intro w'
          go_simp
          with_reducible rfl
         rotate_left
         ·simp only [Act.put, s1_, s2_, s3_, i64_w, i32_w]
          rfl
         exact norm_ (by simp only [putAll, Act.put, s1_, s2_, s3_]) (hCont (v334, v337, .slice Ao41 y339.length co41, gb342) _ ⟨hHeld, (by (with_reducible repeat (first | apply Kd.N_alloc | apply Kd.N_drewN | apply Kd.N_drew)); exact HO341.out), (by (with_reducible repeat (first | apply Kd.V_alloc | apply Kd.V_drewN | apply Kd.V_drew)); exact Kd.V_mono HO_328a.out (fun _ hk => ⟨hk.1.1, ⟨hk.2, ⟨hk.1.2.1, ⟨hk.1.2.2.1, hk.1.2.2.2⟩⟩⟩⟩)), (by (with_reducible repeat (first | apply Kd.V_alloc | apply Kd.V_drewN | apply Kd.V_drew)); exact Kd.V_mono HO_329a.out (fun _ hk => ⟨hk.1.1, ⟨hk.2, ⟨hk.1.2.1, ⟨hk.1.2.2.1, hk.1.2.2.2⟩⟩⟩⟩)), (by (with_reducible repeat (first | refine blk_drewN ?_ _ | refine blk_drew ?_ | refine blk_alloc ?_ _)); exact BK327.out), (by (with_reducible repeat (first | refine blk_drewN ?_ _ | refine blk_drew ?_ | refine blk_alloc ?_ _)); exact BK328.out), (by (with_reducible repeat (first | refine blk_drewN ?_ _ | refine blk_drew ?_ | refine blk_alloc ?_ _)); exact BK342.out), GW342.out, GE342.out, NB327_342.out, NB342_327.out, NB328_342.out, NB342_328.out, (by repeat (first | (with_reducible first | exact HB.out | apply below_alloc | apply pw_below_drewN | apply below_drew1 | refine below_set ?_ GE327.out | refine below_set ?_ GE328.out | refine below_set ?_ GE342.out) | exact HB.out))⟩)
       ·skip
        refine box_step ?hg (N := 7) ?hd (cs := #[.slice none 0 0]) (t := 24) ?hr ?_; (case hd => rfl); (case hg => rfl); (case hr => first | (go_simp; done) | (go_simp; rfl))
        intro gb342 hg w36 hbox hb
        have n0_ := Am (Kd.V_below (Kd.V_elderB (by (with_reducible repeat (first | apply Kd.V_alloc | apply Kd.V_drewN | apply Kd.V_drew)); exact HO_328a.out) gb342 (Nat.le_of_eq hg.symm)) hb)
        have n1_ := Am (Kd.V_below (Kd.V_elderB (by (with_reducible repeat (first | apply Kd.V_alloc | apply Kd.V_drewN | apply Kd.V_drew)); exact HO_329a.out) gb342 (Nat.le_of_eq hg.symm)) hb)
        have n2_ := Am (blk_below (g := gb327) (o := .cells #[.slice A0_0 l0_0.length c0_0] 24 (0, 0)) (by (with_reducible repeat (first | refine blk_drewN ?_ _ | refine blk_drew ?_ | refine blk_alloc ?_ _)); exact BK327.out) hb)
        have n3_ := Am (blk_below (g := gb328) (o := .cells #[.slice A1_0 l1_0.length c1_0] 24 (0, 0)) (by (with_reducible repeat (first | refine blk_drewN ?_ _ | refine blk_drew ?_ | refine blk_alloc ?_ _)); exact BK328.out) hb)
        have n4_ := Am (below_step (by repeat (first | (with_reducible first | exact HB.out | apply below_alloc | apply pw_below_drewN | apply below_drew1 | refine below_set ?_ GE327.out | refine below_set ?_ GE328.out) | exact HB.out)) hb)
        have n5_ := Am (hbox)
        have n6_ := Am ((by rw [hg]; exact (below_size (by repeat (first | (with_reducible first | exact HB.out | apply below_alloc | apply pw_below_drewN | apply below_drew1 | refine below_set ?_ GE327.out | refine below_set ?_ GE328.out) | exact HB.out))) : w.heap.size ≤ gb342))
        have n7_ := Am ((by rw [hg]; exact (below_size (by repeat (first | (with_reducible first | exact HB.out | apply below_alloc | apply pw_below_drewN | apply below_drew1 | refine below_set ?_ GE327.out | refine below_set ?_ GE328.out) | exact HB.out))) : w.heap.size ≤ gb342))
        have n8_ := Am ((by rw [hg]; exact Nat.ne_of_lt (blk_lt (g := gb327) (o := .cells #[.slice A0_0 l0_0.length c0_0] 24 (0, 0)) (by (with_reducible repeat (first | refine blk_drewN ?_ _ | refine blk_drew ?_ | refine blk_alloc ?_ _)); exact BK327.out)) : gb327 ≠ gb342))
        have n9_ := Am ((by rw [hg]; exact Nat.ne_of_gt (blk_lt (g := gb327) (o := .cells #[.slice A0_0 l0_0.length c0_0] 24 (0, 0)) (by (with_reducible repeat (first | refine blk_drewN ?_ _ | refine blk_drew ?_ | refine blk_alloc ?_ _)); exact BK327.out)) : gb342 ≠ gb327))
        have n10_ := Am ((by rw [hg]; exact Nat.ne_of_lt (blk_lt (g := gb328) (o := .cells #[.slice A1_0 l1_0.length c1_0] 24 (0, 0)) (by (with_reducible repeat (first | refine blk_drewN ?_ _ | refine blk_drew ?_ | refine blk_alloc ?_ _)); exact BK328.out)) : gb328 ≠ gb342))
        have n11_ := Am ((by rw [hg]; exact Nat.ne_of_gt (blk_lt (g := gb328) (o := .cells #[.slice A1_0 l1_0.length c1_0] 24 (0, 0)) (by (with_reducible repeat (first | refine blk_drewN ?_ _ | refine blk_drew ?_ | refine blk_alloc ?_ _)); exact BK328.out)) : gb342 ≠ gb328))
        clear HO_328a
        clear HO_329a
        clear BK327
        clear BK328
        clear HB
        have HO_328a := n0_
        have HO_329a := n1_
        have BK327 := n2_
        have BK328 := n3_
        have HB := n4_
        have BK342 := n5_
        have GW342 := n6_
        have GE342 := n7_
        have NB327_342 := n8_
        have NB342_327 := n9_
        have NB328_342 := n10_
        have NB342_328 := n11_
        clear n0_ n1_ n2_ n3_ n4_ n5_ n6_ n7_ n8_ n9_ n10_ n11_
        clear hb hbox hg
        refine hK.out _ _ ⟨(blk_cell BK327.out 0).trans rfl, (blk_cell BK328.out 0).trans rfl⟩ (fun hHeld => ?_)
        clear hK K
        refine norm_ (a' := ?_) ?_ ?_
        rotate_left
        ·show Act.put _ (some 7) _ = _
         simp only [Act.put, s1_, s2_, s3_, i64_w, i32_w]
         rfl
        refine one_ (i := 0) (N := some 32) PJ1_ rfl rfl (one_of HT_.out (by kernel_rfl)) (by decide) (fun K hK => ?_)
        refine Kd.N_lit_step (Kd.slice 3 (Kd.int .i64)) _ 33 ?hg (N' := 32) ?hd (xs := ([] : List (List Int))) (inner := []) (ok := (fun k_ => ((P0_0_ k_ ∨ P1_0_ k_) ∨ w.heap.size ≤ k_) ∧ k_ ≠ gb327 ∧ k_ ≠ gb328 ∧ k_ ≠ gb342)) (okp := (fun k_ => ((P0_0_ k_ ∨ P1_0_ k_) ∨ w.heap.size ≤ k_) ∧ k_ ≠ gb327 ∧ k_ ≠ gb328 ∧ k_ ≠ gb342)) ?hr ?hp (fun _ hk => hk) ((show ∀ k_, w36.heap.size ≤ k_ → (fun k_ => ((P0_0_ k_ ∨ P1_0_ k_) ∨ w.heap.size ≤ k_) ∧ k_ ≠ gb327 ∧ k_ ≠ gb328 ∧ k_ ≠ gb342) k_ from fun k_ hk => ⟨(.inr (Nat.le_trans (below_size (by repeat (first | (with_reducible first | exact HB.out | apply below_alloc | apply pw_below_drewN | apply below_drew1 | refine below_set ?_ GE327.out | refine below_set ?_ GE328.out | refine below_set ?_ GE342.out) | exact HB.out))) hk)), Kd.freshB (g := gb327) (o := .cells #[.slice A0_0 l0_0.length c0_0] 24 (0, 0)) (by (with_reducible repeat (first | refine blk_drewN ?_ _ | refine blk_drew ?_ | refine blk_alloc ?_ _)); exact BK327.out) k_ hk, Kd.freshB (g := gb328) (o := .cells #[.slice A1_0 l1_0.length c1_0] 24 (0, 0)) (by (with_reducible repeat (first | refine blk_drewN ?_ _ | refine blk_drew ?_ | refine blk_alloc ?_ _)); exact BK328.out) k_ hk, Kd.freshB (g := gb342) (o := .cells #[.slice none 0 0] 24 (0, 0)) (by (with_reducible repeat (first | refine blk_drewN ?_ _ | refine blk_drew ?_ | refine blk_alloc ?_ _)); exact BK342.out) k_ hk⟩) _ (Nat.le_refl _)) (Below.refl _ _) (Nat.le_refl _) (by simp) ?_; (case hd => rfl); (case hg => rfl); (case hr => first | (go_simp; done) | (go_simp; rfl)); (case hp => exact (Reps.none _ _))
        intro v334 w37 ho38 hb hg_ hnew_
        clear hg_ hnew_
        (first | rw [← Ny333.out] at ho38 | (simp only [Int.reduceToNat] at ho38; rw [← Ny333.out] at ho38))
        have n0_ := Am (Kd.V_elder' (by (with_reducible repeat (first | apply Kd.V_alloc | apply Kd.V_drewN | apply Kd.V_drew)); exact HO_328a.out) (Kd.N_base ho38) hb)
        have n1_ := Am (Kd.V_elder' (by (with_reducible repeat (first | apply Kd.V_alloc | apply Kd.V_drewN | apply Kd.V_drew)); exact HO_329a.out) (Kd.N_base ho38) hb)
        have n2_ := Am (Kd.N_lower ho38 (below_size (by repeat (first | (with_reducible first | exact HB.out | apply below_alloc | apply pw_below_drewN | apply below_drew1 | refine below_set ?_ GE327.out | refine below_set ?_ GE328.out | refine below_set ?_ GE342.out) | exact HB.out))))
        have n3_ := Am (blk_below (g := gb327) (o := .cells #[.slice A0_0 l0_0.length c0_0] 24 (0, 0)) (by (with_reducible repeat (first | refine blk_drewN ?_ _ | refine blk_drew ?_ | refine blk_alloc ?_ _)); exact BK327.out) hb)
        have n4_ := Am (blk_below (g := gb328) (o := .cells #[.slice A1_0 l1_0.length c1_0] 24 (0, 0)) (by (with_reducible repeat (first | refine blk_drewN ?_ _ | refine blk_drew ?_ | refine blk_alloc ?_ _)); exact BK328.out) hb)
        have n5_ := Am (blk_below (g := gb342) (o := .cells #[.slice none 0 0] 24 (0, 0)) (by (with_reducible repeat (first | refine blk_drewN ?_ _ | refine blk_drew ?_ | refine blk_alloc ?_ _)); exact BK342.out) hb)
        have n6_ := Am (below_step (by repeat (first | (with_reducible first | exact HB.out | apply below_alloc | apply pw_below_drewN | apply below_drew1 | refine below_set ?_ GE327.out | refine below_set ?_ GE328.out | refine below_set ?_ GE342.out) | exact HB.out)) hb)
        clear HO_328a
        clear HO_329a
        clear BK327
        clear BK328
        clear BK342
        clear HB
        have HO_328a := n0_
        have HO_329a := n1_
        have HO335 := n2_
        have BK327 := n3_
        have BK328 := n4_
        have BK342 := n5_
        have HB := n6_
        clear n0_ n1_ n2_ n3_ n4_ n5_ n6_
        clear hb ho38
        refine hK.out _ _ ⟨(blk_cell BK327.out 0).trans rfl, (blk_cell BK328.out 0).trans rfl⟩ (fun hHeld => ?_)
        clear hK K
        refine norm_ (a' := ?_) ?_ ?_
        rotate_left
        ·show Act.put _ (some 32) _ = _
         simp only [Act.put, s1_, s2_, s3_, i64_w, i32_w]
         rfl
        refine one_ (i := 3) (N := some 35) PJ2_ rfl rfl (one_of HT_.out (by kernel_rfl)) (by decide) (fun K hK => ?_)
        refine Kd.N_append_rows_step (Kd.slice 3 (Kd.int .i64)) (w0 := w) w.heap.size (by rfl) (.tmp 32) (.tmp 34) 22 33 (.slice none 0 0) 24 rfl Try.underlying22 info33 rfl (by decide) (by omega) v334 y333 l0_0 _ _ _ (fun k_ => ((P0_0_ k_ ∨ P1_0_ k_) ∨ w.heap.size ≤ k_) ∧ k_ ≠ gb327 ∧ k_ ≠ gb328 ∧ k_ ≠ gb342) (fun k_ => ((fun k_ => ((P0_0_ k_ ∨ P1_0_ k_) ∨ w.heap.size ≤ k_) ∧ k_ ≠ gb327 ∧ k_ ≠ gb328 ∧ k_ ≠ gb342)) k_ ∧ some k_ ≠ (v334 : Value).ownBlock) rfl rfl ?aO ?aR (fun _ hk => hk) ?aF ?aB ?aS ?aL ?_
        (case aR => exact (by skip; exact Kd.V_F (Kd.V_mono (ok' := (fun k_ => ((fun k_ => ((P0_0_ k_ ∨ P1_0_ k_) ∨ w.heap.size ≤ k_) ∧ k_ ≠ gb327 ∧ k_ ≠ gb328 ∧ k_ ≠ gb342)) k_ ∧ some k_ ≠ (v334 : Value).ownBlock)) (HO_328a.out) (fun k_ hk => ⟨⟨hk.1.1.1, ⟨hk.1.1.2.1, ⟨hk.1.1.2.2, hk.1.2⟩⟩⟩, hk.2⟩))))
        (case aB => exact (by repeat (first | (with_reducible first | exact HB.out | apply below_alloc | apply pw_below_drewN | apply below_drew1 | refine below_set ?_ GE327.out | refine below_set ?_ GE328.out | refine below_set ?_ GE342.out) | exact HB.out)))
        (case aF => exact (fun k_ hk => ⟨(.inr (Nat.le_trans (below_size (by repeat (first | (with_reducible first | exact HB.out | apply below_alloc | apply pw_below_drewN | apply below_drew1 | refine below_set ?_ GE327.out | refine below_set ?_ GE328.out | refine below_set ?_ GE342.out) | exact HB.out))) hk)), Kd.freshB (g := gb327) (o := .cells #[.slice A0_0 l0_0.length c0_0] 24 (0, 0)) (by (with_reducible repeat (first | refine blk_drewN ?_ _ | refine blk_drew ?_ | refine blk_alloc ?_ _)); exact BK327.out) k_ hk, Kd.freshB (g := gb328) (o := .cells #[.slice A1_0 l1_0.length c1_0] 24 (0, 0)) (by (with_reducible repeat (first | refine blk_drewN ?_ _ | refine blk_drew ?_ | refine blk_alloc ?_ _)); exact BK328.out) k_ hk, Kd.freshB (g := gb342) (o := .cells #[.slice none 0 0] 24 (0, 0)) (by (with_reducible repeat (first | refine blk_drewN ?_ _ | refine blk_drew ?_ | refine blk_alloc ?_ _)); exact BK342.out) k_ hk⟩))
        (case aO => exact (by (with_reducible repeat (first | apply Kd.N_alloc | apply Kd.N_drewN | apply Kd.N_drew)); exact HO335.out))
        (case aS => exact (below_size (by repeat (first | (with_reducible first | exact HB.out | apply below_alloc | apply pw_below_drewN | apply below_drew1 | refine below_set ?_ GE327.out | refine below_set ?_ GE328.out | refine below_set ?_ GE342.out) | exact HB.out))))
        (case aL => have := LMc29.out; omega)
        intro v337 w39 ho hb hg hat
        rw [← Ny336.out] at ho
        have n0_ := Am (Kd.V_afterv (ok := (fun k_ => ((P0_0_ k_ ∨ P1_0_ k_) ∨ w.heap.size ≤ k_) ∧ k_ ≠ gb327 ∧ k_ ≠ gb328 ∧ k_ ≠ gb342)) (by (with_reducible repeat (first | apply Kd.V_alloc | apply Kd.V_drewN | apply Kd.V_drew)); exact Kd.V_mono HO_328a.out (fun _ hk => ⟨⟨hk.1.1.1, ⟨hk.1.1.2.1, ⟨hk.1.1.2.2, hk.1.2⟩⟩⟩, hk.2⟩)) hg hat)
        have n1_ := Am (Kd.V_afterv (ok := (fun k_ => ((P0_0_ k_ ∨ P1_0_ k_) ∨ w.heap.size ≤ k_) ∧ k_ ≠ gb327 ∧ k_ ≠ gb328 ∧ k_ ≠ gb342)) (by (with_reducible repeat (first | apply Kd.V_alloc | apply Kd.V_drewN | apply Kd.V_drew)); exact Kd.V_mono HO_329a.out (fun _ hk => ⟨⟨hk.1.1.1, ⟨hk.1.1.2.1, ⟨hk.1.1.2.2, hk.1.2⟩⟩⟩, hk.2⟩)) hg hat)
        have n2_ := Am (blk_grown (g := gb327) (o := .cells #[.slice A0_0 l0_0.length c0_0] 24 (0, 0)) (by (with_reducible repeat (first | refine blk_drewN ?_ _ | refine blk_drew ?_ | refine blk_alloc ?_ _)); exact BK327.out) hg (Kd.N_ne HO335.out BK327.out (by decide)))
        have n3_ := Am (blk_grown (g := gb328) (o := .cells #[.slice A1_0 l1_0.length c1_0] 24 (0, 0)) (by (with_reducible repeat (first | refine blk_drewN ?_ _ | refine blk_drew ?_ | refine blk_alloc ?_ _)); exact BK328.out) hg (Kd.N_ne HO335.out BK328.out (by decide)))
        have n4_ := Am (blk_grown (g := gb342) (o := .cells #[.slice none 0 0] 24 (0, 0)) (by (with_reducible repeat (first | refine blk_drewN ?_ _ | refine blk_drew ?_ | refine blk_alloc ?_ _)); exact BK342.out) hg (Kd.N_ne HO335.out BK342.out (by decide)))
        have n5_ := Am (hb)
        have n6_ := Am (ho)
        clear HO_328a
        clear HO_329a
        clear BK327
        clear BK328
        clear BK342
        clear HB
        clear HO335
        have HO_328a := n0_
        have HO_329a := n1_
        have BK327 := n2_
        have BK328 := n3_
        have BK342 := n4_
        have HB := n5_
        have HO338 := n6_
        clear n0_ n1_ n2_ n3_ n4_ n5_ n6_
        clear ho hb hg hat
        refine hK.out _ _ ⟨(blk_cell BK327.out 0).trans rfl, (blk_cell BK328.out 0).trans rfl⟩ (fun hHeld => ?_)
        clear hK K
        refine norm_ (a' := ?_) ?_ ?_
        rotate_left
        ·show Act.put _ (some 35) _ = _
         simp only [Act.put, s1_, s2_, s3_, i64_w, i32_w]
         rfl
        refine one_ (i := 6) (N := some 38) PJ3_ rfl rfl (one_of HT_.out (by kernel_rfl)) (by decide) (fun K hK => ?_)
        refine Kd.N_append_rows_step (Kd.slice 3 (Kd.int .i64)) (w0 := w) w.heap.size (by rfl) (.tmp 35) (.tmp 37) 22 33 (.slice none 0 0) 24 rfl Try.underlying22 info33 rfl (by decide) (by omega) v337 y336 l1_0 _ _ _ (fun k_ => ((P0_0_ k_ ∨ P1_0_ k_) ∨ w.heap.size ≤ k_) ∧ k_ ≠ gb327 ∧ k_ ≠ gb328 ∧ k_ ≠ gb342) (fun k_ => ((fun k_ => ((P0_0_ k_ ∨ P1_0_ k_) ∨ w.heap.size ≤ k_) ∧ k_ ≠ gb327 ∧ k_ ≠ gb328 ∧ k_ ≠ gb342)) k_ ∧ some k_ ≠ (v337 : Value).ownBlock) rfl rfl ?aO ?aR (fun _ hk => hk) ?aF ?aB ?aS ?aL ?_
        (case aR => exact (by skip; exact Kd.V_F (Kd.V_mono (ok' := (fun k_ => ((fun k_ => ((P0_0_ k_ ∨ P1_0_ k_) ∨ w.heap.size ≤ k_) ∧ k_ ≠ gb327 ∧ k_ ≠ gb328 ∧ k_ ≠ gb342)) k_ ∧ some k_ ≠ (v337 : Value).ownBlock)) (HO_329a.out) (fun k_ hk => ⟨⟨hk.1.1, ⟨hk.1.2.1, ⟨hk.1.2.2.1, hk.1.2.2.2⟩⟩⟩, hk.2⟩))))
        (case aB => exact (by repeat (first | (with_reducible first | exact HB.out | apply below_alloc | apply pw_below_drewN | apply below_drew1 | refine below_set ?_ GE327.out | refine below_set ?_ GE328.out | refine below_set ?_ GE342.out) | exact HB.out)))
        (case aF => exact (fun k_ hk => ⟨(.inr (Nat.le_trans (below_size (by repeat (first | (with_reducible first | exact HB.out | apply below_alloc | apply pw_below_drewN | apply below_drew1 | refine below_set ?_ GE327.out | refine below_set ?_ GE328.out | refine below_set ?_ GE342.out) | exact HB.out))) hk)), Kd.freshB (g := gb327) (o := .cells #[.slice A0_0 l0_0.length c0_0] 24 (0, 0)) (by (with_reducible repeat (first | refine blk_drewN ?_ _ | refine blk_drew ?_ | refine blk_alloc ?_ _)); exact BK327.out) k_ hk, Kd.freshB (g := gb328) (o := .cells #[.slice A1_0 l1_0.length c1_0] 24 (0, 0)) (by (with_reducible repeat (first | refine blk_drewN ?_ _ | refine blk_drew ?_ | refine blk_alloc ?_ _)); exact BK328.out) k_ hk, Kd.freshB (g := gb342) (o := .cells #[.slice none 0 0] 24 (0, 0)) (by (with_reducible repeat (first | refine blk_drewN ?_ _ | refine blk_drew ?_ | refine blk_alloc ?_ _)); exact BK342.out) k_ hk⟩))
        (case aO => exact (by (with_reducible repeat (first | apply Kd.N_alloc | apply Kd.N_drewN | apply Kd.N_drew)); exact HO338.out))
        (case aS => exact (below_size (by repeat (first | (with_reducible first | exact HB.out | apply below_alloc | apply pw_below_drewN | apply below_drew1 | refine below_set ?_ GE327.out | refine below_set ?_ GE328.out | refine below_set ?_ GE342.out) | exact HB.out))))
        (case aL => have := LMc30.out; omega)
        intro v340 w40 ho hb hg hat
        rw [← Ny339.out] at ho
        have n0_ := Am (Kd.V_afterv (ok := (fun k_ => ((P0_0_ k_ ∨ P1_0_ k_) ∨ w.heap.size ≤ k_) ∧ k_ ≠ gb327 ∧ k_ ≠ gb328 ∧ k_ ≠ gb342)) (by (with_reducible repeat (first | apply Kd.V_alloc | apply Kd.V_drewN | apply Kd.V_drew)); exact HO_328a.out) hg hat)
        have n1_ := Am (Kd.V_afterv (ok := (fun k_ => ((P0_0_ k_ ∨ P1_0_ k_) ∨ w.heap.size ≤ k_) ∧ k_ ≠ gb327 ∧ k_ ≠ gb328 ∧ k_ ≠ gb342)) (by (with_reducible repeat (first | apply Kd.V_alloc | apply Kd.V_drewN | apply Kd.V_drew)); exact HO_329a.out) hg hat)
        have n2_ := Am (blk_grown (g := gb327) (o := .cells #[.slice A0_0 l0_0.length c0_0] 24 (0, 0)) (by (with_reducible repeat (first | refine blk_drewN ?_ _ | refine blk_drew ?_ | refine blk_alloc ?_ _)); exact BK327.out) hg (Kd.N_ne HO338.out BK327.out (by decide)))
        have n3_ := Am (blk_grown (g := gb328) (o := .cells #[.slice A1_0 l1_0.length c1_0] 24 (0, 0)) (by (with_reducible repeat (first | refine blk_drewN ?_ _ | refine blk_drew ?_ | refine blk_alloc ?_ _)); exact BK328.out) hg (Kd.N_ne HO338.out BK328.out (by decide)))
        have n4_ := Am (blk_grown (g := gb342) (o := .cells #[.slice none 0 0] 24 (0, 0)) (by (with_reducible repeat (first | refine blk_drewN ?_ _ | refine blk_drew ?_ | refine blk_alloc ?_ _)); exact BK342.out) hg (Kd.N_ne HO338.out BK342.out (by decide)))
        have n5_ := Am (hb)
        have n6_ := Am (ho)
        clear HO_328a
        clear HO_329a
        clear BK327
        clear BK328
        clear BK342
        clear HB
        clear HO338
        have HO_328a := n0_
        have HO_329a := n1_
        have BK327 := n2_
        have BK328 := n3_
        have BK342 := n4_
        have HB := n5_
        have HO341 := n6_
        clear n0_ n1_ n2_ n3_ n4_ n5_ n6_
        clear ho hb hg hat
        obtain ⟨Ao41, co41, eo41⟩ := Kd.N_slice HO341.out
        (first | subst eo41 | (injection eo41 with f1_ f2_ f3_; have f4_ := f1_.symm; have f5_ := f3_.symm; clear f1_ f2_ f3_; subst f4_; subst f5_))
        refine hK.out _ _ ⟨(blk_cell BK327.out 0).trans rfl, (blk_cell BK328.out 0).trans rfl⟩ (fun hHeld => ?_)
        clear hK K
        refine norm_ (a' := ?_) ?_ ?_
        rotate_left
        ·show Act.put _ (some 38) _ = _
         simp only [Act.put, s1_, s2_, s3_, i64_w, i32_w]
         rfl
        refine pure_ (i := 7) (N := some 39) (v := ?_) (a' := ?_) PJ0_ rfl rfl (any_of HT_.out (by kernel_rfl)) (fun _ _ _ h => h) (Or.inl ⟨by rfl, ?_⟩) ?_ ?_
        rotate_left
        ·intro w'
         go_simp
         with_reducible rfl
        rotate_left
        ·simp only [Act.put, s1_, s2_, s3_, i64_w, i32_w]
         rfl
        exact norm_ (by simp only [putAll, Act.put, s1_, s2_, s3_]) (hCont (v334, v337, .slice Ao41 y339.length co41, gb342) _ ⟨hHeld, (by (with_reducible repeat (first | apply Kd.N_alloc | apply Kd.N_drewN | apply Kd.N_drew)); exact HO341.out), (by (with_reducible repeat (first | apply Kd.V_alloc | apply Kd.V_drewN | apply Kd.V_drew)); exact Kd.V_mono HO_328a.out (fun _ hk => ⟨hk.1.1, ⟨hk.2, ⟨hk.1.2.1, ⟨hk.1.2.2.1, hk.1.2.2.2⟩⟩⟩⟩)), (by (with_reducible repeat (first | apply Kd.V_alloc | apply Kd.V_drewN | apply Kd.V_drew)); exact Kd.V_mono HO_329a.out (fun _ hk => ⟨hk.1.1, ⟨hk.2, ⟨hk.1.2.1, ⟨hk.1.2.2.1, hk.1.2.2.2⟩⟩⟩⟩)), (by (with_reducible repeat (first | refine blk_drewN ?_ _ | refine blk_drew ?_ | refine blk_alloc ?_ _)); exact BK327.out), (by (with_reducible repeat (first | refine blk_drewN ?_ _ | refine blk_drew ?_ | refine blk_alloc ?_ _)); exact BK328.out), (by (with_reducible repeat (first | refine blk_drewN ?_ _ | refine blk_drew ?_ | refine blk_alloc ?_ _)); exact BK342.out), GW342.out, GE342.out, NB327_342.out, NB342_327.out, NB328_342.out, NB342_328.out, (by repeat (first | (with_reducible first | exact HB.out | apply below_alloc | apply pw_below_drewN | apply below_drew1 | refine below_set ?_ GE327.out | refine below_set ?_ GE328.out | refine below_set ?_ GE342.out) | exact HB.out))⟩)
      rintro ⟨v334, v337, v340, gb342⟩ w42 ⟨hS_, h0_, h1_, h2_, h3_, h4_, h5_, h6_, h7_, h8_, h9_, h10_, h11_, h12_⟩
      have n0_ : Aside0 (Kd.N (Kd.slice 3 (Kd.int .i64)) 33 w42 w.heap.size (fun k_ => ((P0_0_ k_ ∨ P1_0_ k_) ∨ w.heap.size ≤ k_) ∧ k_ ≠ gb327 ∧ k_ ≠ gb328 ∧ k_ ≠ gb342) v340 y339) := ⟨h0_⟩
      have n1_ : Aside0 (Kd.V (Kd.slice 3 (Kd.int .i64)) 33 w42 w.heap.size (fun k_ => ((P0_0_ k_ ∨ P1_0_ k_) ∨ w.heap.size ≤ k_) ∧ some k_ ≠ (v340 : Value).ownBlock ∧ k_ ≠ gb327 ∧ k_ ≠ gb328 ∧ k_ ≠ gb342) (.slice A0_0 l0_0.length c0_0) l0_0) := ⟨h1_⟩
      have n2_ : Aside0 (Kd.V (Kd.slice 3 (Kd.int .i64)) 33 w42 w.heap.size (fun k_ => ((P0_0_ k_ ∨ P1_0_ k_) ∨ w.heap.size ≤ k_) ∧ some k_ ≠ (v340 : Value).ownBlock ∧ k_ ≠ gb327 ∧ k_ ≠ gb328 ∧ k_ ≠ gb342) (.slice A1_0 l1_0.length c1_0) l1_0) := ⟨h2_⟩
      have n3_ : Aside0 (w42.heap[gb327]? = some (.cells #[.slice A0_0 l0_0.length c0_0] 24 (0, 0))) := ⟨h3_⟩
      have n4_ : Aside0 (w42.heap[gb328]? = some (.cells #[.slice A1_0 l1_0.length c1_0] 24 (0, 0))) := ⟨h4_⟩
      have n5_ : Aside0 (w42.heap[gb342]? = some (.cells #[.slice none 0 0] 24 (0, 0))) := ⟨h5_⟩
      have n6_ : Aside0 (w.heap.size ≤ gb342) := ⟨h6_⟩
      have n7_ : Aside0 (w.heap.size ≤ gb342) := ⟨h7_⟩
      have n8_ : Aside0 (gb327 ≠ gb342) := ⟨h8_⟩
      have n9_ : Aside0 (gb342 ≠ gb327) := ⟨h9_⟩
      have n10_ : Aside0 (gb328 ≠ gb342) := ⟨h10_⟩
      have n11_ : Aside0 (gb342 ≠ gb328) := ⟨h11_⟩
      have n12_ : Aside0 (Below w.heap.size w w42) := ⟨h12_⟩
      clear HO_328a
      clear HO_329a
      clear BK327
      clear BK328
      clear HB
      clear h0_ h1_ h2_ h3_ h4_ h5_ h6_ h7_ h8_ h9_ h10_ h11_ h12_
      have HO341 := n0_
      have HO_328a := n1_
      have HO_329a := n2_
      have BK327 := n3_
      have BK328 := n4_
      have BK342 := n5_
      have GW342 := n6_
      have GE342 := n7_
      have NB327_342 := n8_
      have NB342_327 := n9_
      have NB328_342 := n10_
      have NB342_328 := n11_
      have HB := n12_
      clear n0_ n1_ n2_ n3_ n4_ n5_ n6_ n7_ n8_ n9_ n10_ n11_ n12_
      have hHeld : w42.cell? ⟨gb327, 0, none⟩ = some (.slice A0_0 l0_0.length c0_0) ∧ w42.cell? ⟨gb328, 0, none⟩ = some (.slice A1_0 l1_0.length c1_0) := hS_
      obtain ⟨Ao43, co43, eo43⟩ := Kd.N_slice HO341.out
      (first | subst eo43 | (injection eo43 with f1_ f2_ f3_; have f4_ := f1_.symm; have f5_ := f3_.symm; clear f1_ f2_ f3_; subst f4_; subst f5_))
      refine norm_ (a' := ?_) ?_ ?_
      rotate_left
      ·simp only [putAll, Act.put, s1_, s2_, s3_]
       rfl
      refine one_ (i := 9) (N := none) #[true, true, true, true, true, true, true, true, true, true] rfl rfl (one_of HT_.out (by kernel_rfl)) (by decide) (fun K hK => ?_)
      have hs44 : w42.cell? ⟨gb342, 0, none⟩ = some (.slice none 0 0) := (blk_cell BK342.out 0).trans rfl
      have hfs44 := blk_frozen BK342.out 0
      have hns44_0 := NB327_342.out
      have hns44_1 := NB328_342.out
      have hms44_0 := NB342_327.out
      have hms44_1 := NB342_328.out
      refine skip_ (w1 := ?_) (by rfl) rfl ?_ ?_
      rotate_left
      ·go_simp
       rfl
      refine hK.out _ _ ⟨((cell_far (p := ⟨gb342, _, none⟩) NB327_342.out _).trans (hHeld.1)), ((cell_far (p := ⟨gb342, _, none⟩) NB328_342.out _).trans (hHeld.2))⟩ (fun hHeld => ?_)
      clear hK K
      refine done_ (done_of HT_.out (by kernel_rfl)) ?_
      have hnb45 := NB327_328.out
      have hnc45 := NB328_327.out
      have hnb46 := NB327_342.out
      have hnc46 := NB342_327.out
      obtain ⟨hcz47_0, hfz47_0⟩ := blk1_ BK327.out
      go_upto_region 7 with (first | ((with_reducible refine gate_callee (f := 14) rfl ?_); refine goesL_ (some 41) rfl rfl Try.func14 (by kernel_rfl) rfl #[.agg #[.slice A0_0 l0_0.length c0_0], .int .i64 30] rfl (by (try simp only [List.map_toArray, List.map_cons, List.map_nil]); first | done | rfl | (simp only [List.length_drop, List.length_take]; rfl)) ?_; (with_reducible refine (plan_Count.calls _ _ l0_0 30 t343 _ ?side1 ?side2 A31.out).mono ?_); (case side1 => refine (Kd.V_reads' (e := 33) (base := w.heap.size) (ok := fun k_ => (((P0_0_ k_ ∨ P1_0_ k_) ∨ w.heap.size ≤ k_) ∧ (some k_ ≠ (.slice Ao43 y339.length co43 : Value).ownBlock ∧ (k_ ≠ gb327 ∧ (k_ ≠ gb328 ∧ k_ ≠ gb342))))) (n := l0_0.length) (c := c0_0) ?_).2.2; exact (by (with_reducible repeat (first | apply Kd.V_alloc | apply Kd.V_drewN | apply Kd.V_drew)); exact (Kd.V_mono (Kd.V_far (p := ⟨gb342, 0, none⟩) (Kd.V_mono HO_328a.out (fun k_ hk => (⟨hk, hk.2.2.2.2⟩ : _ ∧ k_ ≠ gb342))) (fun _ hk => hk.2) (.slice Ao43 y339.length co43)) (fun _ h_ => h_.1)))); (case side2 => exact (Kd.V_reads' HO_328a.out).2.1); rintro e w48 ⟨v344, rfl, ho0, hb⟩; refine ⟨_, rfl, ?_⟩; have n0_ := Am (Kd.V_elder' (by (with_reducible repeat (first | apply Kd.V_alloc | apply Kd.V_drewN | apply Kd.V_drew)); exact (Kd.V_mono (Kd.V_far (p := ⟨gb342, 0, none⟩) (Kd.V_mono HO_328a.out (fun k_ hk => (⟨hk, hk.2.2.2.2⟩ : _ ∧ k_ ≠ gb342))) (fun _ hk => hk.2) (.slice Ao43 y339.length co43)) (fun _ h_ => h_.1))) (Kd.R_base ho0) hb); have n1_ := Am (Kd.V_elder' (by (with_reducible repeat (first | apply Kd.V_alloc | apply Kd.V_drewN | apply Kd.V_drew)); exact (Kd.V_mono (Kd.V_far (p := ⟨gb342, 0, none⟩) (Kd.V_mono HO_329a.out (fun k_ hk => (⟨hk, hk.2.2.2.2⟩ : _ ∧ k_ ≠ gb342))) (fun _ hk => hk.2) (.slice Ao43 y339.length co43)) (fun _ h_ => h_.1))) (Kd.R_base ho0) hb); have n2_ := Am (Kd.N_elder' (by (with_reducible repeat (first | apply Kd.N_alloc | apply Kd.N_drewN | apply Kd.N_drew)); exact (Kd.N_mono (Kd.N_far (p := ⟨gb342, 0, none⟩) (Kd.N_mono HO341.out (fun k_ hk => (⟨hk, hk.2.2.2⟩ : _ ∧ k_ ≠ gb342))) (fun _ hk => hk.2) (.slice Ao43 y339.length co43)) (fun _ h_ => h_.1))) (Kd.R_base ho0) hb); have n3_ := Am (Kd.R_lower (Kd.R_newM (M := fun k_ => (w.heap.size ≤ k_)) ho0 (below_size (by repeat (first | (with_reducible first | exact HB.out | apply below_alloc | apply pw_below_drewN | apply below_drew1 | refine below_set ?_ GE327.out | refine below_set ?_ GE328.out | refine below_set ?_ GE342.out) | exact HB.out))) (fun k_ h_ => h_)) (below_size (by repeat (first | (with_reducible first | exact HB.out | apply below_alloc | apply pw_below_drewN | apply below_drew1 | refine below_set ?_ GE327.out | refine below_set ?_ GE328.out | refine below_set ?_ GE342.out) | exact HB.out)))); have n4_ := Am (blk_below (g := gb327) (o := .cells #[.slice A0_0 l0_0.length c0_0] 24 (0, 0)) (by (with_reducible repeat (first | refine blk_drewN ?_ _ | refine blk_drew ?_ | refine blk_alloc ?_ _)); refine blk_far ?_ NB327_342.out _; (with_reducible repeat (first | refine blk_drewN ?_ _ | refine blk_drew ?_ | refine blk_alloc ?_ _)); exact BK327.out) hb); have n5_ := Am (blk_below (g := gb328) (o := .cells #[.slice A1_0 l1_0.length c1_0] 24 (0, 0)) (by (with_reducible repeat (first | refine blk_drewN ?_ _ | refine blk_drew ?_ | refine blk_alloc ?_ _)); refine blk_far ?_ NB328_342.out _; (with_reducible repeat (first | refine blk_drewN ?_ _ | refine blk_drew ?_ | refine blk_alloc ?_ _)); exact BK328.out) hb); have n6_ := Am (blk_below (g := gb342) (o := .cells #[.slice Ao43 y339.length co43] 24 (0, 0)) (by (with_reducible repeat (first | refine blk_drewN ?_ _ | refine blk_drew ?_ | refine blk_alloc ?_ _)); refine blk_put (cs := #[.slice none 0 0]) ?_ 0 _ rfl; (with_reducible repeat (first | refine blk_drewN ?_ _ | refine blk_drew ?_ | refine blk_alloc ?_ _)); exact BK342.out) hb); have n7_ := Am (below_step (by repeat (first | (with_reducible first | exact HB.out | apply below_alloc | apply pw_below_drewN | apply below_drew1 | refine below_set ?_ GE327.out | refine below_set ?_ GE328.out | refine below_set ?_ GE342.out) | exact HB.out)) hb); clear HO_328a; clear HO_329a; clear HO341; clear BK327; clear BK328; clear BK342; clear HB; have HO_328a := n0_; have HO_329a := n1_; have HO341 := n2_; have HO345 := n3_; have BK327 := n4_; have BK328 := n5_; have BK342 := n6_; have HB := n7_; clear n0_ n1_ n2_ n3_ n4_ n5_ n6_ n7_; (try clear hb); (try clear hb2); (try clear hk); (try clear hi); (try clear ho0); have hnb49 := NB328_342.out; have hnc49 := NB342_328.out; obtain ⟨hcz50_0, hfz50_0⟩ := blk1_ BK328.out) | ((with_reducible refine gate_callee (f := 14) rfl ?_); refine goesL_ (some 43) rfl rfl Try.func14 (by kernel_rfl) rfl #[.agg #[.slice A1_0 l1_0.length c1_0], .int .i64 30] rfl (by (try simp only [List.map_toArray, List.map_cons, List.map_nil]); first | done | rfl | (simp only [List.length_drop, List.length_take]; rfl)) ?_; (with_reducible refine (plan_Count.calls _ _ l1_0 30 t346 _ ?side1 ?side2 A32.out).mono ?_); (case side1 => repeat (first | exact (Kd.V_reads' HO_329a.out).2.2 | (with_reducible refine Kd.C_alloc ?_ _) | (with_reducible refine Kd.C_drewN ?_ _) | (with_reducible refine Kd.C_drew ?_))); (case side2 => exact (Kd.V_reads' HO_329a.out).2.1); rintro e w51 ⟨v347, rfl, ho0, hb⟩; refine ⟨_, rfl, ?_⟩; have n0_ := Am (Kd.V_elder' (by (with_reducible repeat (first | apply Kd.V_alloc | apply Kd.V_drewN | apply Kd.V_drew)); exact HO_328a.out) (Kd.R_base ho0) hb); have n1_ := Am (Kd.V_elder' (by (with_reducible repeat (first | apply Kd.V_alloc | apply Kd.V_drewN | apply Kd.V_drew)); exact HO_329a.out) (Kd.R_base ho0) hb); have n2_ := Am (Kd.N_elder' (by (with_reducible repeat (first | apply Kd.N_alloc | apply Kd.N_drewN | apply Kd.N_drew)); exact HO341.out) (Kd.R_base ho0) hb); have n3_ := Am (Kd.R_elder' (by (with_reducible repeat (first | apply Kd.R_alloc | apply Kd.R_drewN | apply Kd.R_drew)); exact HO345.out) (Kd.R_base ho0) hb); have n4_ := Am (Kd.R_lower (Kd.R_new' (Kd.R_newM (M := fun k_ => (w.heap.size ≤ k_)) ho0 (below_size (by repeat (first | (with_reducible first | exact HB.out | apply below_alloc | apply pw_below_drewN | apply below_drew1 | refine below_set ?_ GE327.out | refine below_set ?_ GE328.out | refine below_set ?_ GE342.out) | exact HB.out))) (fun k_ h_ => h_)) (Kd.R_lt (by (with_reducible repeat (first | apply Kd.R_alloc | apply Kd.R_drewN | apply Kd.R_drew)); exact HO345.out))) (below_size (by repeat (first | (with_reducible first | exact HB.out | apply below_alloc | apply pw_below_drewN | apply below_drew1 | refine below_set ?_ GE327.out | refine below_set ?_ GE328.out | refine below_set ?_ GE342.out) | exact HB.out)))); have n5_ := Am (blk_below (g := gb327) (o := .cells #[.slice A0_0 l0_0.length c0_0] 24 (0, 0)) (by (with_reducible repeat (first | refine blk_drewN ?_ _ | refine blk_drew ?_ | refine blk_alloc ?_ _)); exact BK327.out) hb); have n6_ := Am (blk_below (g := gb328) (o := .cells #[.slice A1_0 l1_0.length c1_0] 24 (0, 0)) (by (with_reducible repeat (first | refine blk_drewN ?_ _ | refine blk_drew ?_ | refine blk_alloc ?_ _)); exact BK328.out) hb); have n7_ := Am (blk_below (g := gb342) (o := .cells #[.slice Ao43 y339.length co43] 24 (0, 0)) (by (with_reducible repeat (first | refine blk_drewN ?_ _ | refine blk_drew ?_ | refine blk_alloc ?_ _)); exact BK342.out) hb); have n8_ := Am (below_step (by repeat (first | (with_reducible first | exact HB.out | apply below_alloc | apply pw_below_drewN | apply below_drew1 | refine below_set ?_ GE327.out | refine below_set ?_ GE328.out | refine below_set ?_ GE342.out) | exact HB.out)) hb); clear HO_328a; clear HO_329a; clear HO341; clear HO345; clear BK327; clear BK328; clear BK342; clear HB; have HO_328a := n0_; have HO_329a := n1_; have HO341 := n2_; have HO345 := n3_; have HO348 := n4_; have BK327 := n5_; have BK328 := n6_; have BK342 := n7_; have HB := n8_; clear n0_ n1_ n2_ n3_ n4_ n5_ n6_ n7_ n8_; (try clear hb); (try clear hb2); (try clear hk); (try clear hi); (try clear ho0); obtain ⟨hcz52_0, hfz52_0⟩ := blk1_ BK342.out) | ((with_reducible refine gate_callee (f := 14) rfl ?_); refine goesL_ (some 45) rfl rfl Try.func14 (by kernel_rfl) rfl #[.agg #[.slice Ao43 y339.length co43], .int .i64 30] rfl (by (try simp only [List.map_toArray, List.map_cons, List.map_nil]); first | done | rfl | (simp only [List.length_drop, List.length_take]; rfl)) ?_; (with_reducible refine (plan_Count.calls _ _ y339 30 t349 _ ?side1 ?side2 A33.out).mono ?_); (case side1 => repeat (first | exact (Kd.N_reads' HO341.out).2.2 | (with_reducible refine Kd.C_alloc ?_ _) | (with_reducible refine Kd.C_drewN ?_ _) | (with_reducible refine Kd.C_drew ?_))); (case side2 => exact (Kd.N_reads' HO341.out).2.1); rintro e w53 ⟨v350, rfl, ho0, hb⟩; refine ⟨_, rfl, ?_⟩; have n0_ := Am (Kd.V_elder' (by (with_reducible repeat (first | apply Kd.V_alloc | apply Kd.V_drewN | apply Kd.V_drew)); exact HO_328a.out) (Kd.R_base ho0) hb); have n1_ := Am (Kd.V_elder' (by (with_reducible repeat (first | apply Kd.V_alloc | apply Kd.V_drewN | apply Kd.V_drew)); exact HO_329a.out) (Kd.R_base ho0) hb); have n2_ := Am (Kd.N_elder' (by (with_reducible repeat (first | apply Kd.N_alloc | apply Kd.N_drewN | apply Kd.N_drew)); exact HO341.out) (Kd.R_base ho0) hb); have n3_ := Am (Kd.R_elder' (by (with_reducible repeat (first | apply Kd.R_alloc | apply Kd.R_drewN | apply Kd.R_drew)); exact HO345.out) (Kd.R_base ho0) hb); have n4_ := Am (Kd.R_elder' (by (with_reducible repeat (first | apply Kd.R_alloc | apply Kd.R_drewN | apply Kd.R_drew)); exact HO348.out) (Kd.R_base ho0) hb); have n5_ := Am (Kd.R_lower (Kd.R_new' (Kd.R_new' (Kd.R_newM (M := fun k_ => (w.heap.size ≤ k_)) ho0 (below_size (by repeat (first | (with_reducible first | exact HB.out | apply below_alloc | apply pw_below_drewN | apply below_drew1 | refine below_set ?_ GE327.out | refine below_set ?_ GE328.out | refine below_set ?_ GE342.out) | exact HB.out))) (fun k_ h_ => h_)) (Kd.R_lt (by (with_reducible repeat (first | apply Kd.R_alloc | apply Kd.R_drewN | apply Kd.R_drew)); exact HO345.out))) (Kd.R_lt (by (with_reducible repeat (first | apply Kd.R_alloc | apply Kd.R_drewN | apply Kd.R_drew)); exact HO348.out))) (below_size (by repeat (first | (with_reducible first | exact HB.out | apply below_alloc | apply pw_below_drewN | apply below_drew1 | refine below_set ?_ GE327.out | refine below_set ?_ GE328.out | refine below_set ?_ GE342.out) | exact HB.out)))); have n6_ := Am (blk_below (g := gb327) (o := .cells #[.slice A0_0 l0_0.length c0_0] 24 (0, 0)) (by (with_reducible repeat (first | refine blk_drewN ?_ _ | refine blk_drew ?_ | refine blk_alloc ?_ _)); exact BK327.out) hb); have n7_ := Am (blk_below (g := gb328) (o := .cells #[.slice A1_0 l1_0.length c1_0] 24 (0, 0)) (by (with_reducible repeat (first | refine blk_drewN ?_ _ | refine blk_drew ?_ | refine blk_alloc ?_ _)); exact BK328.out) hb); have n8_ := Am (blk_below (g := gb342) (o := .cells #[.slice Ao43 y339.length co43] 24 (0, 0)) (by (with_reducible repeat (first | refine blk_drewN ?_ _ | refine blk_drew ?_ | refine blk_alloc ?_ _)); exact BK342.out) hb); have n9_ := Am (below_step (by repeat (first | (with_reducible first | exact HB.out | apply below_alloc | apply pw_below_drewN | apply below_drew1 | refine below_set ?_ GE327.out | refine below_set ?_ GE328.out | refine below_set ?_ GE342.out) | exact HB.out)) hb); clear HO_328a; clear HO_329a; clear HO341; clear HO345; clear HO348; clear BK327; clear BK328; clear BK342; clear HB; have HO_328a := n0_; have HO_329a := n1_; have HO341 := n2_; have HO345 := n3_; have HO348 := n4_; have HO351 := n5_; have BK327 := n6_; have BK328 := n7_; have BK342 := n8_; have HB := n9_; clear n0_ n1_ n2_ n3_ n4_ n5_ n6_ n7_ n8_ n9_; (try clear hb); (try clear hb2); (try clear hk); (try clear hi); (try clear ho0)))
      (try simp only [Act.put, s1_, s2_, s3_])
      go_cut [68] (fun v68 wc => ∃ (kq : Nat) (x68_33 : Bool), v68 = .bool x68_33 ∧ Aside0 (entrepotlaw09_PlanJoins.j1 kq a2 t343 t346 t349 x68_33 l0_0 l1_0 y339 = some r) ∧ Aside0 (kq ≤ kj3) ∧ Aside0 (Kd.R (Kd.int .i64) 3 wc w.heap.size (fun k_ => (w.heap.size ≤ k_) ∧ some k_ ≠ (v347 : Value).ownBlock ∧ some k_ ≠ (v350 : Value).ownBlock) v344 t343) ∧ Aside0 (Kd.R (Kd.int .i64) 3 wc w.heap.size (fun k_ => (w.heap.size ≤ k_) ∧ some k_ ≠ (v344 : Value).ownBlock ∧ some k_ ≠ (v350 : Value).ownBlock) v347 t346) ∧ Aside0 (Kd.R (Kd.int .i64) 3 wc w.heap.size (fun k_ => (w.heap.size ≤ k_) ∧ some k_ ≠ (v344 : Value).ownBlock ∧ some k_ ≠ (v347 : Value).ownBlock) v350 t349) ∧ Aside0 (Kd.V (Kd.slice 3 (Kd.int .i64)) 33 wc w.heap.size (fun k_ => ((P0_0_ k_ ∨ P1_0_ k_) ∨ w.heap.size ≤ k_) ∧ some k_ ≠ (v344 : Value).ownBlock ∧ some k_ ≠ (v347 : Value).ownBlock ∧ some k_ ≠ (v350 : Value).ownBlock ∧ some k_ ≠ ((.slice Ao43 y339.length co43) : Value).ownBlock ∧ k_ ≠ gb327 ∧ k_ ≠ gb328 ∧ k_ ≠ gb342) (.slice A0_0 l0_0.length c0_0) l0_0) ∧ Aside0 (Kd.V (Kd.slice 3 (Kd.int .i64)) 33 wc w.heap.size (fun k_ => ((P0_0_ k_ ∨ P1_0_ k_) ∨ w.heap.size ≤ k_) ∧ some k_ ≠ (v344 : Value).ownBlock ∧ some k_ ≠ (v347 : Value).ownBlock ∧ some k_ ≠ (v350 : Value).ownBlock ∧ some k_ ≠ ((.slice Ao43 y339.length co43) : Value).ownBlock ∧ k_ ≠ gb327 ∧ k_ ≠ gb328 ∧ k_ ≠ gb342) (.slice A1_0 l1_0.length c1_0) l1_0) ∧ Aside0 (Kd.N (Kd.slice 3 (Kd.int .i64)) 33 wc w.heap.size (fun k_ => ((P0_0_ k_ ∨ P1_0_ k_) ∨ w.heap.size ≤ k_) ∧ some k_ ≠ (v344 : Value).ownBlock ∧ some k_ ≠ (v347 : Value).ownBlock ∧ some k_ ≠ (v350 : Value).ownBlock ∧ k_ ≠ gb327 ∧ k_ ≠ gb328 ∧ k_ ≠ gb342) (.slice Ao43 y339.length co43) y339) ∧ Aside0 (wc.heap[gb327]? = some (.cells #[(.slice A0_0 l0_0.length c0_0)] 24 (0, 0))) ∧ Aside0 (wc.heap[gb328]? = some (.cells #[(.slice A1_0 l1_0.length c1_0)] 24 (0, 0))) ∧ Aside0 (wc.heap[gb342]? = some (.cells #[(.slice Ao43 y339.length co43)] 24 (0, 0))) ∧ Aside0 (Below w.heap.size w wc))
      case first =>
       have H := HC34.out
       clear HC34
       by_cases c54 : (t343.length : Int) = 30
       ·rw [if_pos c54] at H
        have c54b0 : ((t343.length : Int) == 30) = true := beq_iff_eq.mpr c54
        have c54b1 : ((t343.length : Int) != 30) = false := bne_eq_false_iff_eq.mpr c54
        clear c54
        (first | rw [c54b0] | (simp only [i64_w, i32_w]; rw [c54b0]) | skip)
        by_cases c55 : (t346.length : Int) = 30
        ·rw [if_pos c55] at H
         have c55b0 : ((t346.length : Int) == 30) = true := beq_iff_eq.mpr c55
         have c55b1 : ((t346.length : Int) != 30) = false := bne_eq_false_iff_eq.mpr c55
         clear c55
         by_cases c56 : (t349.length : Int) = 30
         ·rw [if_pos c56] at H
          have c56b0 : ((t349.length : Int) == 30) = true := beq_iff_eq.mpr c56
          have c56b1 : ((t349.length : Int) != 30) = false := bne_eq_false_iff_eq.mpr c56
          clear c56
          replace H := Option.bind_eq_some_iff.mp H
          obtain ⟨t352, A570, H⟩ := H
          replace H : ((plan_Many.f kj3 l0_0).bind fun t353 => ((plan_Many.f kj3 l1_0).bind fun t354 => (entrepotlaw09_PlanJoins.j1 kj3 a2 t343 t346 t349 (t352 != (wrap64 (t353 + t354))) l0_0 l1_0 y339))) = some r := H
          have A57 := Am A570
          clear A570
          replace H := Option.bind_eq_some_iff.mp H
          obtain ⟨t353, A580, H⟩ := H
          replace H : ((plan_Many.f kj3 l1_0).bind fun t354 => (entrepotlaw09_PlanJoins.j1 kj3 a2 t343 t346 t349 (t352 != (wrap64 (t353 + t354))) l0_0 l1_0 y339)) = some r := H
          have A58 := Am A580
          clear A580
          replace H := Option.bind_eq_some_iff.mp H
          obtain ⟨t354, A590, H⟩ := H
          replace H : (entrepotlaw09_PlanJoins.j1 kj3 a2 t343 t346 t349 (t352 != (wrap64 (t353 + t354))) l0_0 l1_0 y339) = some r := H
          have A59 := Am A590
          clear A590
          have H' := Am H
          clear H
          try go_wp2
          have n0_ := Am (Kd.V_drew HO_328a.out)
          have n1_ := Am (Kd.V_drew HO_329a.out)
          have n2_ := Am (Kd.N_drew HO341.out)
          have n3_ := Am (Kd.R_drew HO345.out)
          have n4_ := Am (Kd.R_drew HO348.out)
          have n5_ := Am (Kd.R_drew HO351.out)
          have n6_ := Am (blk_drew BK327.out)
          have n7_ := Am (blk_drew BK328.out)
          have n8_ := Am (blk_drew BK342.out)
          have n9_ := Am (below_drew1 HB.out)
          clear HO_328a
          clear HO_329a
          clear HO341
          clear HO345
          clear HO348
          clear HO351
          clear BK327
          clear BK328
          clear BK342
          clear HB
          have HO_328a := n0_
          have HO_329a := n1_
          have HO341 := n2_
          have HO345 := n3_
          have HO348 := n4_
          have HO351 := n5_
          have BK327 := n6_
          have BK328 := n7_
          have BK342 := n8_
          have HB := n9_
          clear n0_ n1_ n2_ n3_ n4_ n5_ n6_ n7_ n8_ n9_
          obtain ⟨Ao61, co61, eo61⟩ := Kd.R_slice HO345.out
          (first | subst eo61 | (injection eo61 with f1_ f2_ f3_; have f4_ := f1_.symm; have f5_ := f3_.symm; clear f1_ f2_ f3_; subst f4_; subst f5_))
          obtain ⟨Ao62, co62, eo62⟩ := Kd.R_slice HO348.out
          (first | subst eo62 | (injection eo62 with f1_ f2_ f3_; have f4_ := f1_.symm; have f5_ := f3_.symm; clear f1_ f2_ f3_; subst f4_; subst f5_))
          obtain ⟨Ao63, co63, eo63⟩ := Kd.R_slice HO351.out
          (first | subst eo63 | (injection eo63 with f1_ f2_ f3_; have f4_ := f1_.symm; have f5_ := f3_.symm; clear f1_ f2_ f3_; subst f4_; subst f5_))
          refine start_ (n := 23) (S := fun w' => w'.cell? ⟨gb342, 0, none⟩ = some (.slice Ao43 y339.length co43) ∧ w'.cell? ⟨gb327, 0, none⟩ = some (.slice A0_0 l0_0.length c0_0) ∧ w'.cell? ⟨gb328, 0, none⟩ = some (.slice A1_0 l1_0.length c1_0)) (ds := []) PJ4_ (by kernel_rfl) rfl rfl ⟨(blk_cell BK342.out 0).trans rfl, (blk_cell BK327.out 0).trans rfl, (blk_cell BK328.out 0).trans rfl⟩ (fun hHeld => ?_); refine with_tabW entrepotlaw09_PlanJoins.tab7 entrepotlaw09_PlanJoins.bits7 (fun HT_ HW_ => ?_)
          generalize w53.drew = w60 at HO_328a HO_329a HO341 HO345 HO348 HO351 BK327 BK328 BK342 HB hHeld ⊢
          refine pure_ (i := 0) (N := some 46) (v := ?_) (a' := ?_) PJ5_ rfl rfl (any_of HT_.out (by kernel_rfl)) (fun _ _ _ h => h) (Or.inl ⟨by rfl, ?_⟩) ?_ ?_
          rotate_left
          ·intro w'
           go_simp
           with_reducible rfl
          rotate_left
          ·simp only [Act.put, s1_, s2_, s3_, i64_w, i32_w]
           rfl
          refine pure_ (i := 1) (N := some 47) (v := ?_) (a' := ?_) PJ6_ rfl rfl (any_of HT_.out (by kernel_rfl)) (fun _ _ _ h => h) (Or.inl ⟨by rfl, ?_⟩) ?_ ?_
          rotate_left
          ·intro w'
           go_simp
           with_reducible rfl
          rotate_left
          ·simp only [Act.put, s1_, s2_, s3_, i64_w, i32_w]
           rfl
          refine pure_ (i := 2) (N := some 48) (v := ?_) (a' := ?_) PJ7_ rfl rfl (any_of HT_.out (by kernel_rfl)) (fun _ _ _ h => h) (Or.inl ⟨by rfl, ?_⟩) ?_ ?_
          rotate_left
          ·intro w'
           go_simp
           with_reducible rfl
          rotate_left
          ·simp only [Act.put, s1_, s2_, s3_, i64_w, i32_w]
           rfl
          refine pure_ (i := 3) (N := some 49) (v := ?_) (a' := ?_) PJ8_ rfl rfl (any_of HT_.out (by kernel_rfl)) (fun _ _ _ h => h) (Or.inl ⟨by rfl, ?_⟩) ?_ ?_
          rotate_left
          ·intro w'
           go_simp
           with_reducible rfl
          rotate_left
          ·simp only [Act.put, s1_, s2_, s3_, i64_w, i32_w]
           rfl
          refine pure_ (i := 4) (N := some 50) (v := ?_) (a' := ?_) PJ9_ rfl rfl (any_of HT_.out (by kernel_rfl)) (fun _ _ _ h => h) (Or.inl ⟨by rfl, ?_⟩) ?_ ?_
          rotate_left
          ·intro w'
           go_simp
           with_reducible rfl
          rotate_left
          ·simp only [Act.put, s1_, s2_, s3_, i64_w, i32_w]
           rfl
          refine pure_ (i := 5) (N := some 51) (v := ?_) (a' := ?_) PJ10_ rfl rfl (any_of HT_.out (by kernel_rfl)) (fun _ _ _ h => h) (Or.inl ⟨by rfl, ?_⟩) ?_ ?_
          rotate_left
          ·intro w'
           go_simp
           with_reducible rfl
          rotate_left
          ·simp only [Act.put, s1_, s2_, s3_, i64_w, i32_w]
           rfl
          refine pure_ (i := 6) (N := some 52) (v := ?_) (a' := ?_) PJ11_ rfl rfl (any_of HT_.out (by kernel_rfl)) (fun _ _ _ h => h) (Or.inl ⟨by rfl, ?_⟩) ?_ ?_
          rotate_left
          ·intro w'
           go_simp
           with_reducible rfl
          rotate_left
          ·simp only [Act.put, s1_, s2_, s3_, i64_w, i32_w]
           rfl
          refine pure_ (i := 7) (N := some 53) (v := ?_) (a' := ?_) PJ12_ rfl rfl (any_of HT_.out (by kernel_rfl)) (fun _ _ _ h => h) (Or.inl ⟨by rfl, ?_⟩) ?_ ?_
          rotate_left
          ·intro w'
           go_simp
           with_reducible rfl
          rotate_left
          ·simp only [Act.put, s1_, s2_, s3_, i64_w, i32_w]
           rfl
          refine pure_ (i := 8) (N := some 54) (v := ?_) (a' := ?_) PJ13_ rfl rfl (any_of HT_.out (by kernel_rfl)) (fun _ _ _ h => h) (Or.inl ⟨by rfl, ?_⟩) ?_ ?_
          rotate_left
          ·intro w'
           go_simp
           with_reducible rfl
          rotate_left
          ·simp only [Act.put, s1_, s2_, s3_, i64_w, i32_w]
           rfl
          refine pure_ (i := 9) (N := some 55) (v := ?_) (a' := ?_) PJ14_ rfl rfl (any_of HT_.out (by kernel_rfl)) (fun _ _ _ h => h) (Or.inl ⟨by rfl, ?_⟩) ?_ ?_
          rotate_left
          ·intro w'
           go_simp
           with_reducible rfl
          rotate_left
          ·simp only [Act.put, s1_, s2_, s3_, i64_w, i32_w]
           rfl
          refine pure_ (i := 10) (N := some 56) (v := ?_) (a' := ?_) PJ15_ rfl rfl (any_of HT_.out (by kernel_rfl)) (fun _ _ _ h => h) (Or.inl ⟨by rfl, ?_⟩) ?_ ?_
          rotate_left
          ·intro w'
           go_simp
           with_reducible rfl
          rotate_left
          ·simp only [Act.put, s1_, s2_, s3_, i64_w, i32_w]
           rfl
          refine pure_ (i := 11) (N := some 57) (v := ?_) (a' := ?_) PJ16_ rfl rfl (any_of HT_.out (by kernel_rfl)) (fun _ _ _ h => h) (Or.inl ⟨by rfl, ?_⟩) ?_ ?_
          rotate_left
          ·intro w'
           go_simp
           with_reducible rfl
          rotate_left
          ·simp only [Act.put, s1_, s2_, s3_, i64_w, i32_w]
           rfl
          refine pure_ (i := 12) (N := some 58) (v := ?_) (a' := ?_) PJ17_ rfl rfl (any_of HT_.out (by kernel_rfl)) (fun _ _ _ h => h) (Or.inl ⟨by rfl, ?_⟩) ?_ ?_
          rotate_left
          ·intro w'
           go_simp
           with_reducible rfl
          rotate_left
          ·simp only [Act.put, s1_, s2_, s3_, i64_w, i32_w]
           rfl
          refine pure_ (i := 13) (N := some 59) (v := ?_) (a' := ?_) PJ18_ rfl rfl (any_of HT_.out (by kernel_rfl)) (fun _ _ _ h => h) (Or.inl ⟨by rfl, ?_⟩) ?_ ?_
          rotate_left
          ·intro w'
           go_simp
           with_reducible rfl
          rotate_left
          ·simp only [Act.put, s1_, s2_, s3_, i64_w, i32_w]
           rfl
          refine take_ (i := 14) (N := some 60) (v := ?_) (a' := ?_) PJ19_ rfl rfl (take_ofW HT_.out HW_.out (by kernel_rfl)) (fun _ _ _ h => h) (Or.inl ⟨by rfl, ?_⟩) hHeld ?_ ?_
          rotate_left
          ·rintro w' ⟨s0, s1, s2⟩
           go_simp
           with_reducible rfl
          rotate_left
          ·simp only [Act.put, s1_, s2_, s3_, i64_w, i32_w]
           rfl
          refine take_ (i := 16) (N := some 62) (v := ?_) (a' := ?_) #[true, true, true, true, true, true, true, true, true, true, true, true, true, true, true, false, true, false, false, false, false, false, false] rfl rfl (take_ofW HT_.out HW_.out (by kernel_rfl)) (fun _ _ _ h => h) (Or.inl ⟨by rfl, ?_⟩) hHeld ?_ ?_
          rotate_left
          ·rintro w' ⟨s0, s1, s2⟩
           go_simp
           with_reducible rfl
          rotate_left
          ·simp only [Act.put, s1_, s2_, s3_, i64_w, i32_w]
           rfl
          refine take_ (i := 18) (N := some 64) (v := ?_) (a' := ?_) #[true, true, true, true, true, true, true, true, true, true, true, true, true, true, true, false, true, false, true, false, false, false, false] rfl rfl (take_ofW HT_.out HW_.out (by kernel_rfl)) (fun _ _ _ h => h) (Or.inl ⟨by rfl, ?_⟩) hHeld ?_ ?_
          rotate_left
          ·rintro w' ⟨s0, s1, s2⟩
           go_simp
           with_reducible rfl
          rotate_left
          ·simp only [Act.put, s1_, s2_, s3_, i64_w, i32_w]
           rfl
          refine one_ (i := 15) (N := some 61) #[true, true, true, true, true, true, true, true, true, true, true, true, true, true, true, true, true, false, true, false, false, false, false] rfl rfl (one_of HT_.out (by kernel_rfl)) (by decide) (fun K hK => ?_)
          refine goes_ Try.func16 (by kernel_rfl) rfl #[.agg #[.slice Ao43 y339.length co43]] (by rfl) rfl rfl (by (try simp only [List.map_toArray, List.map_cons, List.map_nil]); first | done | rfl | (simp only [List.length_drop, List.length_take]; rfl)) ?_
          with_reducible refine (plan_Many.calls kj3 _ _ y339 t352 _ ?side1 ?side2 A57.out).mono ?_
          (case side1 => repeat (first | exact (Kd.N_reads' HO341.out).2.2 | (with_reducible refine Kd.C_alloc ?_ _) | (with_reducible refine Kd.C_drewN ?_ _) | (with_reducible refine Kd.C_drew ?_)))
          (case side2 => exact (Kd.N_reads' HO341.out).2.1)
          rintro e w64 ⟨rfl, hb⟩
          refine ⟨_, rfl, ?_⟩
          have n0_ := Am (Kd.V_below (by (with_reducible repeat (first | apply Kd.V_alloc | apply Kd.V_drewN | apply Kd.V_drew)); exact HO_328a.out) hb)
          have n1_ := Am (Kd.V_below (by (with_reducible repeat (first | apply Kd.V_alloc | apply Kd.V_drewN | apply Kd.V_drew)); exact HO_329a.out) hb)
          have n2_ := Am (Kd.N_below (by (with_reducible repeat (first | apply Kd.N_alloc | apply Kd.N_drewN | apply Kd.N_drew)); exact HO341.out) hb)
          have n3_ := Am (Kd.R_below (by (with_reducible repeat (first | apply Kd.R_alloc | apply Kd.R_drewN | apply Kd.R_drew)); exact HO345.out) hb)
          have n4_ := Am (Kd.R_below (by (with_reducible repeat (first | apply Kd.R_alloc | apply Kd.R_drewN | apply Kd.R_drew)); exact HO348.out) hb)
          have n5_ := Am (Kd.R_below (by (with_reducible repeat (first | apply Kd.R_alloc | apply Kd.R_drewN | apply Kd.R_drew)); exact HO351.out) hb)
          have n6_ := Am (blk_below (g := gb327) (o := .cells #[.slice A0_0 l0_0.length c0_0] 24 (0, 0)) (by (with_reducible repeat (first | refine blk_drewN ?_ _ | refine blk_drew ?_ | refine blk_alloc ?_ _)); exact BK327.out) hb)
          have n7_ := Am (blk_below (g := gb328) (o := .cells #[.slice A1_0 l1_0.length c1_0] 24 (0, 0)) (by (with_reducible repeat (first | refine blk_drewN ?_ _ | refine blk_drew ?_ | refine blk_alloc ?_ _)); exact BK328.out) hb)
          have n8_ := Am (blk_below (g := gb342) (o := .cells #[.slice Ao43 y339.length co43] 24 (0, 0)) (by (with_reducible repeat (first | refine blk_drewN ?_ _ | refine blk_drew ?_ | refine blk_alloc ?_ _)); exact BK342.out) hb)
          have n9_ := Am (below_step (by repeat (first | (with_reducible first | exact HB.out | apply below_alloc | apply pw_below_drewN | apply below_drew1 | refine below_set ?_ GE327.out | refine below_set ?_ GE328.out | refine below_set ?_ GE342.out) | exact HB.out)) hb)
          clear HO_328a
          clear HO_329a
          clear HO341
          clear HO345
          clear HO348
          clear HO351
          clear BK327
          clear BK328
          clear BK342
          clear HB
          have HO_328a := n0_
          have HO_329a := n1_
          have HO341 := n2_
          have HO345 := n3_
          have HO348 := n4_
          have HO351 := n5_
          have BK327 := n6_
          have BK328 := n7_
          have BK342 := n8_
          have HB := n9_
          clear n0_ n1_ n2_ n3_ n4_ n5_ n6_ n7_ n8_ n9_
          (try clear hb)
          (try clear hb2)
          (try clear hk)
          (try clear hi)
          refine hK.out _ _ ⟨(blk_cell BK342.out 0).trans rfl, (blk_cell BK327.out 0).trans rfl, (blk_cell BK328.out 0).trans rfl⟩ (fun hHeld => ?_)
          clear hK K
          refine norm_ (a' := ?_) ?_ ?_
          rotate_left
          ·show Act.put _ (some 61) _ = _
           simp only [Act.put, s1_, s2_, s3_, i64_w, i32_w]
           rfl
          refine one_ (i := 17) (N := some 63) PJ20_ rfl rfl (one_of HT_.out (by kernel_rfl)) (by decide) (fun K hK => ?_)
          refine goes_ Try.func16 (by kernel_rfl) rfl #[.agg #[.slice A0_0 l0_0.length c0_0]] (by rfl) rfl rfl (by (try simp only [List.map_toArray, List.map_cons, List.map_nil]); first | done | rfl | (simp only [List.length_drop, List.length_take]; rfl)) ?_
          with_reducible refine (plan_Many.calls kj3 _ _ l0_0 t353 _ ?side1 ?side2 A58.out).mono ?_
          (case side1 => repeat (first | exact (Kd.V_reads' HO_328a.out).2.2 | (with_reducible refine Kd.C_alloc ?_ _) | (with_reducible refine Kd.C_drewN ?_ _) | (with_reducible refine Kd.C_drew ?_)))
          (case side2 => exact (Kd.V_reads' HO_328a.out).2.1)
          rintro e w65 ⟨rfl, hb⟩
          refine ⟨_, rfl, ?_⟩
          have n0_ := Am (Kd.V_below (by (with_reducible repeat (first | apply Kd.V_alloc | apply Kd.V_drewN | apply Kd.V_drew)); exact HO_328a.out) hb)
          have n1_ := Am (Kd.V_below (by (with_reducible repeat (first | apply Kd.V_alloc | apply Kd.V_drewN | apply Kd.V_drew)); exact HO_329a.out) hb)
          have n2_ := Am (Kd.N_below (by (with_reducible repeat (first | apply Kd.N_alloc | apply Kd.N_drewN | apply Kd.N_drew)); exact HO341.out) hb)
          have n3_ := Am (Kd.R_below (by (with_reducible repeat (first | apply Kd.R_alloc | apply Kd.R_drewN | apply Kd.R_drew)); exact HO345.out) hb)
          have n4_ := Am (Kd.R_below (by (with_reducible repeat (first | apply Kd.R_alloc | apply Kd.R_drewN | apply Kd.R_drew)); exact HO348.out) hb)
          have n5_ := Am (Kd.R_below (by (with_reducible repeat (first | apply Kd.R_alloc | apply Kd.R_drewN | apply Kd.R_drew)); exact HO351.out) hb)
          have n6_ := Am (blk_below (g := gb327) (o := .cells #[.slice A0_0 l0_0.length c0_0] 24 (0, 0)) (by (with_reducible repeat (first | refine blk_drewN ?_ _ | refine blk_drew ?_ | refine blk_alloc ?_ _)); exact BK327.out) hb)
          have n7_ := Am (blk_below (g := gb328) (o := .cells #[.slice A1_0 l1_0.length c1_0] 24 (0, 0)) (by (with_reducible repeat (first | refine blk_drewN ?_ _ | refine blk_drew ?_ | refine blk_alloc ?_ _)); exact BK328.out) hb)
          have n8_ := Am (blk_below (g := gb342) (o := .cells #[.slice Ao43 y339.length co43] 24 (0, 0)) (by (with_reducible repeat (first | refine blk_drewN ?_ _ | refine blk_drew ?_ | refine blk_alloc ?_ _)); exact BK342.out) hb)
          have n9_ := Am (below_step (by repeat (first | (with_reducible first | exact HB.out | apply below_alloc | apply pw_below_drewN | apply below_drew1 | refine below_set ?_ GE327.out | refine below_set ?_ GE328.out | refine below_set ?_ GE342.out) | exact HB.out)) hb)
          clear HO_328a
          clear HO_329a
          clear HO341
          clear HO345
          clear HO348
          clear HO351
          clear BK327
          clear BK328
          clear BK342
          clear HB
          have HO_328a := n0_
          have HO_329a := n1_
          have HO341 := n2_
          have HO345 := n3_
          have HO348 := n4_
          have HO351 := n5_
          have BK327 := n6_
          have BK328 := n7_
          have BK342 := n8_
          have HB := n9_
          clear n0_ n1_ n2_ n3_ n4_ n5_ n6_ n7_ n8_ n9_
          (try clear hb)
          (try clear hb2)
          (try clear hk)
          (try clear hi)
          refine hK.out _ _ ⟨(blk_cell BK342.out 0).trans rfl, (blk_cell BK327.out 0).trans rfl, (blk_cell BK328.out 0).trans rfl⟩ (fun hHeld => ?_)
          clear hK K
          refine norm_ (a' := ?_) ?_ ?_
          rotate_left
          ·show Act.put _ (some 63) _ = _
           simp only [Act.put, s1_, s2_, s3_, i64_w, i32_w]
           rfl
          refine one_ (i := 19) (N := some 65) PJ21_ rfl rfl (one_of HT_.out (by kernel_rfl)) (by decide) (fun K hK => ?_)
          refine goes_ Try.func16 (by kernel_rfl) rfl #[.agg #[.slice A1_0 l1_0.length c1_0]] (by rfl) rfl rfl (by (try simp only [List.map_toArray, List.map_cons, List.map_nil]); first | done | rfl | (simp only [List.length_drop, List.length_take]; rfl)) ?_
          with_reducible refine (plan_Many.calls kj3 _ _ l1_0 t354 _ ?side1 ?side2 A59.out).mono ?_
          (case side1 => repeat (first | exact (Kd.V_reads' HO_329a.out).2.2 | (with_reducible refine Kd.C_alloc ?_ _) | (with_reducible refine Kd.C_drewN ?_ _) | (with_reducible refine Kd.C_drew ?_)))
          (case side2 => exact (Kd.V_reads' HO_329a.out).2.1)
          rintro e w66 ⟨rfl, hb⟩
          refine ⟨_, rfl, ?_⟩
          have n0_ := Am (Kd.V_below (by (with_reducible repeat (first | apply Kd.V_alloc | apply Kd.V_drewN | apply Kd.V_drew)); exact HO_328a.out) hb)
          have n1_ := Am (Kd.V_below (by (with_reducible repeat (first | apply Kd.V_alloc | apply Kd.V_drewN | apply Kd.V_drew)); exact HO_329a.out) hb)
          have n2_ := Am (Kd.N_below (by (with_reducible repeat (first | apply Kd.N_alloc | apply Kd.N_drewN | apply Kd.N_drew)); exact HO341.out) hb)
          have n3_ := Am (Kd.R_below (by (with_reducible repeat (first | apply Kd.R_alloc | apply Kd.R_drewN | apply Kd.R_drew)); exact HO345.out) hb)
          have n4_ := Am (Kd.R_below (by (with_reducible repeat (first | apply Kd.R_alloc | apply Kd.R_drewN | apply Kd.R_drew)); exact HO348.out) hb)
          have n5_ := Am (Kd.R_below (by (with_reducible repeat (first | apply Kd.R_alloc | apply Kd.R_drewN | apply Kd.R_drew)); exact HO351.out) hb)
          have n6_ := Am (blk_below (g := gb327) (o := .cells #[.slice A0_0 l0_0.length c0_0] 24 (0, 0)) (by (with_reducible repeat (first | refine blk_drewN ?_ _ | refine blk_drew ?_ | refine blk_alloc ?_ _)); exact BK327.out) hb)
          have n7_ := Am (blk_below (g := gb328) (o := .cells #[.slice A1_0 l1_0.length c1_0] 24 (0, 0)) (by (with_reducible repeat (first | refine blk_drewN ?_ _ | refine blk_drew ?_ | refine blk_alloc ?_ _)); exact BK328.out) hb)
          have n8_ := Am (blk_below (g := gb342) (o := .cells #[.slice Ao43 y339.length co43] 24 (0, 0)) (by (with_reducible repeat (first | refine blk_drewN ?_ _ | refine blk_drew ?_ | refine blk_alloc ?_ _)); exact BK342.out) hb)
          have n9_ := Am (below_step (by repeat (first | (with_reducible first | exact HB.out | apply below_alloc | apply pw_below_drewN | apply below_drew1 | refine below_set ?_ GE327.out | refine below_set ?_ GE328.out | refine below_set ?_ GE342.out) | exact HB.out)) hb)
          clear HO_328a
          clear HO_329a
          clear HO341
          clear HO345
          clear HO348
          clear HO351
          clear BK327
          clear BK328
          clear BK342
          clear HB
          have HO_328a := n0_
          have HO_329a := n1_
          have HO341 := n2_
          have HO345 := n3_
          have HO348 := n4_
          have HO351 := n5_
          have BK327 := n6_
          have BK328 := n7_
          have BK342 := n8_
          have HB := n9_
          clear n0_ n1_ n2_ n3_ n4_ n5_ n6_ n7_ n8_ n9_
          (try clear hb)
          (try clear hb2)
          (try clear hk)
          (try clear hi)
          refine hK.out _ _ ⟨(blk_cell BK342.out 0).trans rfl, (blk_cell BK327.out 0).trans rfl, (blk_cell BK328.out 0).trans rfl⟩ (fun hHeld => ?_)
          clear hK K
          refine norm_ (a' := ?_) ?_ ?_
          rotate_left
          ·show Act.put _ (some 65) _ = _
           simp only [Act.put, s1_, s2_, s3_, i64_w, i32_w]
           rfl
          refine pure_ (i := 20) (N := some 66) (v := ?_) (a' := ?_) PJ22_ rfl rfl (any_of HT_.out (by kernel_rfl)) (fun _ _ _ h => h) (Or.inl ⟨by rfl, ?_⟩) ?_ ?_
          rotate_left
          ·intro w'
           go_simp
           with_reducible rfl
          rotate_left
          ·simp only [Act.put, s1_, s2_, s3_, i64_w, i32_w]
           rfl
          refine pure_ (i := 21) (N := some 67) (v := ?_) (a' := ?_) PJ23_ rfl rfl (any_of HT_.out (by kernel_rfl)) (fun _ _ _ h => h) (Or.inl ⟨by rfl, ?_⟩) ?_ ?_
          rotate_left
          ·intro w'
           go_simp
           with_reducible rfl
          rotate_left
          ·simp only [Act.put, s1_, s2_, s3_, i64_w, i32_w]
           rfl
          refine pure_ (i := 22) (N := some 68) (v := ?_) (a' := ?_) PJ24_ rfl rfl (any_of HT_.out (by kernel_rfl)) (fun _ _ _ h => h) (Or.inl ⟨by rfl, ?_⟩) ?_ ?_
          rotate_left
          ·intro w'
           go_simp
           with_reducible rfl
          rotate_left
          ·simp only [Act.put, s1_, s2_, s3_, i64_w, i32_w]
           rfl
          refine done_ (done_of HT_.out (by kernel_rfl)) ?_
          try go_wp2
          go_meet
          case rel => exact ⟨_, ((t352 != (wrap64 (t353 + t354)))), (by first | rfl | (simp; done) | (simp [*]; done)), H', ⟨by have := HJ3.out; first | omega | exact Nat.le_refl _⟩, ⟨by (with_reducible repeat (first | apply Kd.R_alloc | apply Kd.R_drewN | apply Kd.R_drew)); exact Kd.R_mono HO345.out (fun _ hk => ⟨hk.1.1.1, ⟨hk.1.2, hk.2⟩⟩)⟩, ⟨by (with_reducible repeat (first | apply Kd.R_alloc | apply Kd.R_drewN | apply Kd.R_drew)); exact Kd.R_mono HO348.out (fun _ hk => ⟨hk.1.1.1, ⟨hk.1.2, hk.2⟩⟩)⟩, ⟨by (with_reducible repeat (first | apply Kd.R_alloc | apply Kd.R_drewN | apply Kd.R_drew)); exact Kd.R_mono HO351.out (fun _ hk => ⟨hk.1.1.1, ⟨hk.1.2, hk.2⟩⟩)⟩, ⟨by (with_reducible repeat (first | apply Kd.V_alloc | apply Kd.V_drewN | apply Kd.V_drew)); exact Kd.V_mono HO_328a.out (fun _ hk => ⟨hk.1.1.1.1, ⟨hk.1.1.2, ⟨hk.1.2, ⟨hk.2, ⟨hk.1.1.1.2.1, ⟨hk.1.1.1.2.2.1, ⟨hk.1.1.1.2.2.2.1, hk.1.1.1.2.2.2.2⟩⟩⟩⟩⟩⟩⟩)⟩, ⟨by (with_reducible repeat (first | apply Kd.V_alloc | apply Kd.V_drewN | apply Kd.V_drew)); exact Kd.V_mono HO_329a.out (fun _ hk => ⟨hk.1.1.1.1, ⟨hk.1.1.2, ⟨hk.1.2, ⟨hk.2, ⟨hk.1.1.1.2.1, ⟨hk.1.1.1.2.2.1, ⟨hk.1.1.1.2.2.2.1, hk.1.1.1.2.2.2.2⟩⟩⟩⟩⟩⟩⟩)⟩, ⟨by (with_reducible repeat (first | apply Kd.N_alloc | apply Kd.N_drewN | apply Kd.N_drew)); exact Kd.N_mono HO341.out (fun _ hk => ⟨hk.1.1.1.1, ⟨hk.1.1.2, ⟨hk.1.2, ⟨hk.2, ⟨hk.1.1.1.2.1, ⟨hk.1.1.1.2.2.1, hk.1.1.1.2.2.2⟩⟩⟩⟩⟩⟩)⟩, ⟨by (with_reducible repeat (first | refine blk_drewN ?_ _ | refine blk_drew ?_ | refine blk_alloc ?_ _)); exact BK327.out⟩, ⟨by (with_reducible repeat (first | refine blk_drewN ?_ _ | refine blk_drew ?_ | refine blk_alloc ?_ _)); exact BK328.out⟩, ⟨by (with_reducible repeat (first | refine blk_drewN ?_ _ | refine blk_drew ?_ | refine blk_alloc ?_ _)); exact BK342.out⟩, ⟨by repeat (first | (with_reducible first | exact HB.out | apply below_alloc | apply pw_below_drewN | apply below_drew1 | refine below_set ?_ GE327.out | refine below_set ?_ GE328.out | refine below_set ?_ GE342.out) | exact HB.out)⟩⟩
         ·rw [if_neg c56] at H
          have c56b0 : ((t349.length : Int) == 30) = false := beq_eq_false_iff_ne.mpr c56
          have c56b1 : ((t349.length : Int) != 30) = true := bne_iff_ne.mpr c56
          have H' := Am H
          clear H
          try go_wp2
          have n0_ := Am (Kd.V_drew HO_328a.out)
          have n1_ := Am (Kd.V_drew HO_329a.out)
          have n2_ := Am (Kd.N_drew HO341.out)
          have n3_ := Am (Kd.R_drew HO345.out)
          have n4_ := Am (Kd.R_drew HO348.out)
          have n5_ := Am (Kd.R_drew HO351.out)
          have n6_ := Am (blk_drew BK327.out)
          have n7_ := Am (blk_drew BK328.out)
          have n8_ := Am (blk_drew BK342.out)
          have n9_ := Am (below_drew1 HB.out)
          clear HO_328a
          clear HO_329a
          clear HO341
          clear HO345
          clear HO348
          clear HO351
          clear BK327
          clear BK328
          clear BK342
          clear HB
          have HO_328a := n0_
          have HO_329a := n1_
          have HO341 := n2_
          have HO345 := n3_
          have HO348 := n4_
          have HO351 := n5_
          have BK327 := n6_
          have BK328 := n7_
          have BK342 := n8_
          have HB := n9_
          clear n0_ n1_ n2_ n3_ n4_ n5_ n6_ n7_ n8_ n9_
          obtain ⟨Ao68, co68, eo68⟩ := Kd.R_slice HO345.out
          (first | subst eo68 | (injection eo68 with f1_ f2_ f3_; have f4_ := f1_.symm; have f5_ := f3_.symm; clear f1_ f2_ f3_; subst f4_; subst f5_))
          obtain ⟨Ao69, co69, eo69⟩ := Kd.R_slice HO348.out
          (first | subst eo69 | (injection eo69 with f1_ f2_ f3_; have f4_ := f1_.symm; have f5_ := f3_.symm; clear f1_ f2_ f3_; subst f4_; subst f5_))
          obtain ⟨Ao70, co70, eo70⟩ := Kd.R_slice HO351.out
          (first | subst eo70 | (injection eo70 with f1_ f2_ f3_; have f4_ := f1_.symm; have f5_ := f3_.symm; clear f1_ f2_ f3_; subst f4_; subst f5_))
          refine start_ (n := 23) (S := fun w' => True) (ds := []) PJ4_ (by kernel_rfl) rfl rfl trivial (fun hHeld => ?_); refine with_tabW entrepotlaw09_PlanJoins.tab7 entrepotlaw09_PlanJoins.bits7 (fun HT_ HW_ => ?_)
          generalize w53.drew = w67 at HO_328a HO_329a HO341 HO345 HO348 HO351 BK327 BK328 BK342 HB hHeld ⊢
          refine pure_ (i := 0) (N := some 46) (v := ?_) (a' := ?_) PJ5_ rfl rfl (any_of HT_.out (by kernel_rfl)) (fun _ _ _ h => h) (Or.inl ⟨by rfl, ?_⟩) ?_ ?_
          rotate_left
          ·intro w'
           go_simp
           with_reducible rfl
          rotate_left
          ·simp only [Act.put, s1_, s2_, s3_, i64_w, i32_w]
           rfl
          refine pure_ (i := 1) (N := some 47) (v := ?_) (a' := ?_) PJ6_ rfl rfl (any_of HT_.out (by kernel_rfl)) (fun _ _ _ h => h) (Or.inl ⟨by rfl, ?_⟩) ?_ ?_
          rotate_left
          ·intro w'
           go_simp
           with_reducible rfl
          rotate_left
          ·simp only [Act.put, s1_, s2_, s3_, i64_w, i32_w]
           rfl
          refine pure_ (i := 2) (N := some 48) (v := ?_) (a' := ?_) PJ7_ rfl rfl (any_of HT_.out (by kernel_rfl)) (fun _ _ _ h => h) (Or.inl ⟨by rfl, ?_⟩) ?_ ?_
          rotate_left
          ·intro w'
           go_simp
           with_reducible rfl
          rotate_left
          ·simp only [Act.put, s1_, s2_, s3_, i64_w, i32_w]
           rfl
          refine pure_ (i := 3) (N := some 49) (v := ?_) (a' := ?_) PJ8_ rfl rfl (any_of HT_.out (by kernel_rfl)) (fun _ _ _ h => h) (Or.inl ⟨by rfl, ?_⟩) ?_ ?_
          rotate_left
          ·intro w'
           go_simp
           with_reducible rfl
          rotate_left
          ·simp only [Act.put, s1_, s2_, s3_, i64_w, i32_w]
           rfl
          refine pure_ (i := 4) (N := some 50) (v := ?_) (a' := ?_) PJ9_ rfl rfl (any_of HT_.out (by kernel_rfl)) (fun _ _ _ h => h) (Or.inl ⟨by rfl, ?_⟩) ?_ ?_
          rotate_left
          ·intro w'
           go_simp
           with_reducible rfl
          rotate_left
          ·simp only [Act.put, s1_, s2_, s3_, i64_w, i32_w]
           rfl
          refine pure_ (i := 5) (N := some 51) (v := ?_) (a' := ?_) PJ10_ rfl rfl (any_of HT_.out (by kernel_rfl)) (fun _ _ _ h => h) (Or.inl ⟨by rfl, ?_⟩) ?_ ?_
          rotate_left
          ·intro w'
           go_simp
           with_reducible rfl
          rotate_left
          ·simp only [Act.put, s1_, s2_, s3_, i64_w, i32_w]
           rfl
          refine pure_ (i := 6) (N := some 52) (v := ?_) (a' := ?_) PJ11_ rfl rfl (any_of HT_.out (by kernel_rfl)) (fun _ _ _ h => h) (Or.inl ⟨by rfl, ?_⟩) ?_ ?_
          rotate_left
          ·intro w'
           go_simp
           with_reducible rfl
          rotate_left
          ·simp only [Act.put, s1_, s2_, s3_, i64_w, i32_w]
           rfl
          refine pure_ (i := 7) (N := some 53) (v := ?_) (a' := ?_) PJ12_ rfl rfl (any_of HT_.out (by kernel_rfl)) (fun _ _ _ h => h) (Or.inl ⟨by rfl, ?_⟩) ?_ ?_
          rotate_left
          ·intro w'
           go_simp
           with_reducible rfl
          rotate_left
          ·simp only [Act.put, s1_, s2_, s3_, i64_w, i32_w]
           rfl
          refine pure_ (i := 8) (N := some 54) (v := ?_) (a' := ?_) PJ13_ rfl rfl (any_of HT_.out (by kernel_rfl)) (fun _ _ _ h => h) (Or.inl ⟨by rfl, ?_⟩) ?_ ?_
          rotate_left
          ·intro w'
           go_simp
           with_reducible rfl
          rotate_left
          ·simp only [Act.put, s1_, s2_, s3_, i64_w, i32_w]
           rfl
          refine pure_ (i := 9) (N := some 55) (v := ?_) (a' := ?_) PJ14_ rfl rfl (any_of HT_.out (by kernel_rfl)) (fun _ _ _ h => h) (Or.inl ⟨by rfl, ?_⟩) ?_ ?_
          rotate_left
          ·intro w'
           go_simp
           with_reducible rfl
          rotate_left
          ·simp only [Act.put, s1_, s2_, s3_, i64_w, i32_w]
           rfl
          refine pure_ (i := 10) (N := some 56) (v := ?_) (a' := ?_) PJ15_ rfl rfl (any_of HT_.out (by kernel_rfl)) (fun _ _ _ h => h) (Or.inl ⟨by rfl, ?_⟩) ?_ ?_
          rotate_left
          ·intro w'
           go_simp
           with_reducible rfl
          rotate_left
          ·simp only [Act.put, s1_, s2_, s3_, i64_w, i32_w]
           rfl
          refine pure_ (i := 11) (N := some 57) (v := ?_) (a' := ?_) PJ16_ rfl rfl (any_of HT_.out (by kernel_rfl)) (fun _ _ _ h => h) (Or.inl ⟨by rfl, ?_⟩) ?_ ?_
          rotate_left
          ·intro w'
           go_simp
           with_reducible rfl
          rotate_left
          ·simp only [Act.put, s1_, s2_, s3_, i64_w, i32_w]
           rfl
          refine pure_ (i := 12) (N := some 58) (v := ?_) (a' := ?_) PJ17_ rfl rfl (any_of HT_.out (by kernel_rfl)) (fun _ _ _ h => h) (Or.inl ⟨by rfl, ?_⟩) ?_ ?_
          rotate_left
          ·intro w'
           go_simp
           with_reducible rfl
          rotate_left
          ·simp only [Act.put, s1_, s2_, s3_, i64_w, i32_w]
           rfl
          refine pure_ (i := 13) (N := some 59) (v := ?_) (a' := ?_) PJ18_ rfl rfl (any_of HT_.out (by kernel_rfl)) (fun _ _ _ h => h) (Or.inl ⟨by rfl, ?_⟩) ?_ ?_
          rotate_left
          ·intro w'
           go_simp
           with_reducible rfl
          rotate_left
          ·simp only [Act.put, s1_, s2_, s3_, i64_w, i32_w]
           rfl
          refine pure_ (i := 14) (N := some 60) (v := undef) (a' := ?_) PJ19_ rfl rfl (any_of HT_.out (by kernel_rfl)) (fun _ _ _ h => h) (Or.inr ⟨by rfl, rfl⟩) ?_ ?_
          rotate_left
          ·simp only [Act.put, s1_, s2_, s3_, i64_w, i32_w]
           rfl
          refine pure_ (i := 15) (N := some 61) (v := undef) (a' := ?_) PJ25_ rfl rfl (any_of HT_.out (by kernel_rfl)) (fun _ _ _ h => h) (Or.inr ⟨by rfl, rfl⟩) ?_ ?_
          rotate_left
          ·simp only [Act.put, s1_, s2_, s3_, i64_w, i32_w]
           rfl
          refine pure_ (i := 16) (N := some 62) (v := undef) (a' := ?_) PJ26_ rfl rfl (any_of HT_.out (by kernel_rfl)) (fun _ _ _ h => h) (Or.inr ⟨by rfl, rfl⟩) ?_ ?_
          rotate_left
          ·simp only [Act.put, s1_, s2_, s3_, i64_w, i32_w]
           rfl
          refine pure_ (i := 17) (N := some 63) (v := undef) (a' := ?_) PJ27_ rfl rfl (any_of HT_.out (by kernel_rfl)) (fun _ _ _ h => h) (Or.inr ⟨by rfl, rfl⟩) ?_ ?_
          rotate_left
          ·simp only [Act.put, s1_, s2_, s3_, i64_w, i32_w]
           rfl
          refine pure_ (i := 18) (N := some 64) (v := undef) (a' := ?_) PJ20_ rfl rfl (any_of HT_.out (by kernel_rfl)) (fun _ _ _ h => h) (Or.inr ⟨by rfl, rfl⟩) ?_ ?_
          rotate_left
          ·simp only [Act.put, s1_, s2_, s3_, i64_w, i32_w]
           rfl
          refine pure_ (i := 19) (N := some 65) (v := undef) (a' := ?_) PJ21_ rfl rfl (any_of HT_.out (by kernel_rfl)) (fun _ _ _ h => h) (Or.inr ⟨by rfl, rfl⟩) ?_ ?_
          rotate_left
          ·simp only [Act.put, s1_, s2_, s3_, i64_w, i32_w]
           rfl
          refine pure_ (i := 20) (N := some 66) (v := undef) (a' := ?_) PJ22_ rfl rfl (any_of HT_.out (by kernel_rfl)) (fun _ _ _ h => h) (Or.inr ⟨by rfl, rfl⟩) ?_ ?_
          rotate_left
          ·simp only [Act.put, s1_, s2_, s3_, i64_w, i32_w]
           rfl
          refine pure_ (i := 21) (N := some 67) (v := undef) (a' := ?_) PJ23_ rfl rfl (any_of HT_.out (by kernel_rfl)) (fun _ _ _ h => h) (Or.inr ⟨by rfl, rfl⟩) ?_ ?_
          rotate_left
          ·simp only [Act.put, s1_, s2_, s3_, i64_w, i32_w]
           rfl
          refine pure_ (i := 22) (N := some 68) (v := ?_) (a' := ?_) PJ24_ rfl rfl (any_of HT_.out (by kernel_rfl)) (fun _ _ _ h => h) (Or.inl ⟨by rfl, ?_⟩) ?_ ?_
          rotate_left
          ·intro w'
           go_simp
           with_reducible rfl
          rotate_left
          ·simp only [Act.put, s1_, s2_, s3_, i64_w, i32_w]
           rfl
          refine done_ (done_of HT_.out (by kernel_rfl)) ?_
          try go_wp2
          go_meet
          case rel => exact ⟨_, (true), (by first | rfl | (simp; done) | (simp [*]; done)), H', ⟨by have := HJ3.out; first | omega | exact Nat.le_refl _⟩, ⟨by (with_reducible repeat (first | apply Kd.R_alloc | apply Kd.R_drewN | apply Kd.R_drew)); exact Kd.R_mono HO345.out (fun _ hk => ⟨hk.1.1.1, ⟨hk.1.2, hk.2⟩⟩)⟩, ⟨by (with_reducible repeat (first | apply Kd.R_alloc | apply Kd.R_drewN | apply Kd.R_drew)); exact Kd.R_mono HO348.out (fun _ hk => ⟨hk.1.1.1, ⟨hk.1.2, hk.2⟩⟩)⟩, ⟨by (with_reducible repeat (first | apply Kd.R_alloc | apply Kd.R_drewN | apply Kd.R_drew)); exact Kd.R_mono HO351.out (fun _ hk => ⟨hk.1.1.1, ⟨hk.1.2, hk.2⟩⟩)⟩, ⟨by (with_reducible repeat (first | apply Kd.V_alloc | apply Kd.V_drewN | apply Kd.V_drew)); exact Kd.V_mono HO_328a.out (fun _ hk => ⟨hk.1.1.1.1, ⟨hk.1.1.2, ⟨hk.1.2, ⟨hk.2, ⟨hk.1.1.1.2.1, ⟨hk.1.1.1.2.2.1, ⟨hk.1.1.1.2.2.2.1, hk.1.1.1.2.2.2.2⟩⟩⟩⟩⟩⟩⟩)⟩, ⟨by (with_reducible repeat (first | apply Kd.V_alloc | apply Kd.V_drewN | apply Kd.V_drew)); exact Kd.V_mono HO_329a.out (fun _ hk => ⟨hk.1.1.1.1, ⟨hk.1.1.2, ⟨hk.1.2, ⟨hk.2, ⟨hk.1.1.1.2.1, ⟨hk.1.1.1.2.2.1, ⟨hk.1.1.1.2.2.2.1, hk.1.1.1.2.2.2.2⟩⟩⟩⟩⟩⟩⟩)⟩, ⟨by (with_reducible repeat (first | apply Kd.N_alloc | apply Kd.N_drewN | apply Kd.N_drew)); exact Kd.N_mono HO341.out (fun _ hk => ⟨hk.1.1.1.1, ⟨hk.1.1.2, ⟨hk.1.2, ⟨hk.2, ⟨hk.1.1.1.2.1, ⟨hk.1.1.1.2.2.1, hk.1.1.1.2.2.2⟩⟩⟩⟩⟩⟩)⟩, ⟨by (with_reducible repeat (first | refine blk_drewN ?_ _ | refine blk_drew ?_ | refine blk_alloc ?_ _)); exact BK327.out⟩, ⟨by (with_reducible repeat (first | refine blk_drewN ?_ _ | refine blk_drew ?_ | refine blk_alloc ?_ _)); exact BK328.out⟩, ⟨by (with_reducible repeat (first | refine blk_drewN ?_ _ | refine blk_drew ?_ | refine blk_alloc ?_ _)); exact BK342.out⟩, ⟨by repeat (first | (with_reducible first | exact HB.out | apply below_alloc | apply pw_below_drewN | apply below_drew1 | refine below_set ?_ GE327.out | refine below_set ?_ GE328.out | refine below_set ?_ GE342.out) | exact HB.out)⟩⟩
        ·rw [if_neg c55] at H
         have c55b0 : ((t346.length : Int) == 30) = false := beq_eq_false_iff_ne.mpr c55
         have c55b1 : ((t346.length : Int) != 30) = true := bne_iff_ne.mpr c55
         have H' := Am H
         clear H
         try go_wp2
         have n0_ := Am (Kd.V_drew HO_328a.out)
         have n1_ := Am (Kd.V_drew HO_329a.out)
         have n2_ := Am (Kd.N_drew HO341.out)
         have n3_ := Am (Kd.R_drew HO345.out)
         have n4_ := Am (Kd.R_drew HO348.out)
         have n5_ := Am (Kd.R_drew HO351.out)
         have n6_ := Am (blk_drew BK327.out)
         have n7_ := Am (blk_drew BK328.out)
         have n8_ := Am (blk_drew BK342.out)
         have n9_ := Am (below_drew1 HB.out)
         clear HO_328a
         clear HO_329a
         clear HO341
         clear HO345
         clear HO348
         clear HO351
         clear BK327
         clear BK328
         clear BK342
         clear HB
         have HO_328a := n0_
         have HO_329a := n1_
         have HO341 := n2_
         have HO345 := n3_
         have HO348 := n4_
         have HO351 := n5_
         have BK327 := n6_
         have BK328 := n7_
         have BK342 := n8_
         have HB := n9_
         clear n0_ n1_ n2_ n3_ n4_ n5_ n6_ n7_ n8_ n9_
         obtain ⟨Ao72, co72, eo72⟩ := Kd.R_slice HO345.out
         (first | subst eo72 | (injection eo72 with f1_ f2_ f3_; have f4_ := f1_.symm; have f5_ := f3_.symm; clear f1_ f2_ f3_; subst f4_; subst f5_))
         obtain ⟨Ao73, co73, eo73⟩ := Kd.R_slice HO348.out
         (first | subst eo73 | (injection eo73 with f1_ f2_ f3_; have f4_ := f1_.symm; have f5_ := f3_.symm; clear f1_ f2_ f3_; subst f4_; subst f5_))
         refine start_ (n := 23) (S := fun w' => True) (ds := []) PJ4_ (by kernel_rfl) rfl rfl trivial (fun hHeld => ?_); refine with_tabW entrepotlaw09_PlanJoins.tab7 entrepotlaw09_PlanJoins.bits7 (fun HT_ HW_ => ?_)
         generalize w53.drew = w71 at HO_328a HO_329a HO341 HO345 HO348 HO351 BK327 BK328 BK342 HB hHeld ⊢
         refine pure_ (i := 0) (N := some 46) (v := ?_) (a' := ?_) PJ5_ rfl rfl (any_of HT_.out (by kernel_rfl)) (fun _ _ _ h => h) (Or.inl ⟨by rfl, ?_⟩) ?_ ?_
         rotate_left
         ·intro w'
          go_simp
          with_reducible rfl
         rotate_left
         ·simp only [Act.put, s1_, s2_, s3_, i64_w, i32_w]
          rfl
         refine pure_ (i := 1) (N := some 47) (v := ?_) (a' := ?_) PJ6_ rfl rfl (any_of HT_.out (by kernel_rfl)) (fun _ _ _ h => h) (Or.inl ⟨by rfl, ?_⟩) ?_ ?_
         rotate_left
         ·intro w'
          go_simp
          with_reducible rfl
         rotate_left
         ·simp only [Act.put, s1_, s2_, s3_, i64_w, i32_w]
          rfl
         refine pure_ (i := 2) (N := some 48) (v := ?_) (a' := ?_) PJ7_ rfl rfl (any_of HT_.out (by kernel_rfl)) (fun _ _ _ h => h) (Or.inl ⟨by rfl, ?_⟩) ?_ ?_
         rotate_left
         ·intro w'
          go_simp
          with_reducible rfl
         rotate_left
         ·simp only [Act.put, s1_, s2_, s3_, i64_w, i32_w]
          rfl
         refine pure_ (i := 3) (N := some 49) (v := ?_) (a' := ?_) PJ8_ rfl rfl (any_of HT_.out (by kernel_rfl)) (fun _ _ _ h => h) (Or.inl ⟨by rfl, ?_⟩) ?_ ?_
         rotate_left
         ·intro w'
          go_simp
          with_reducible rfl
         rotate_left
         ·simp only [Act.put, s1_, s2_, s3_, i64_w, i32_w]
          rfl
         refine pure_ (i := 4) (N := some 50) (v := ?_) (a' := ?_) PJ9_ rfl rfl (any_of HT_.out (by kernel_rfl)) (fun _ _ _ h => h) (Or.inl ⟨by rfl, ?_⟩) ?_ ?_
         rotate_left
         ·intro w'
          go_simp
          with_reducible rfl
         rotate_left
         ·simp only [Act.put, s1_, s2_, s3_, i64_w, i32_w]
          rfl
         refine pure_ (i := 5) (N := some 51) (v := ?_) (a' := ?_) PJ10_ rfl rfl (any_of HT_.out (by kernel_rfl)) (fun _ _ _ h => h) (Or.inl ⟨by rfl, ?_⟩) ?_ ?_
         rotate_left
         ·intro w'
          go_simp
          with_reducible rfl
         rotate_left
         ·simp only [Act.put, s1_, s2_, s3_, i64_w, i32_w]
          rfl
         refine pure_ (i := 6) (N := some 52) (v := ?_) (a' := ?_) PJ11_ rfl rfl (any_of HT_.out (by kernel_rfl)) (fun _ _ _ h => h) (Or.inl ⟨by rfl, ?_⟩) ?_ ?_
         rotate_left
         ·intro w'
          go_simp
          with_reducible rfl
         rotate_left
         ·simp only [Act.put, s1_, s2_, s3_, i64_w, i32_w]
          rfl
         refine pure_ (i := 7) (N := some 53) (v := ?_) (a' := ?_) PJ12_ rfl rfl (any_of HT_.out (by kernel_rfl)) (fun _ _ _ h => h) (Or.inl ⟨by rfl, ?_⟩) ?_ ?_
         rotate_left
         ·intro w'
          go_simp
          with_reducible rfl
         rotate_left
         ·simp only [Act.put, s1_, s2_, s3_, i64_w, i32_w]
          rfl
         refine pure_ (i := 8) (N := some 54) (v := ?_) (a' := ?_) PJ13_ rfl rfl (any_of HT_.out (by kernel_rfl)) (fun _ _ _ h => h) (Or.inl ⟨by rfl, ?_⟩) ?_ ?_
         rotate_left
         ·intro w'
          go_simp
          with_reducible rfl
         rotate_left
         ·simp only [Act.put, s1_, s2_, s3_, i64_w, i32_w]
          rfl
         refine pure_ (i := 9) (N := some 55) (v := undef) (a' := ?_) PJ14_ rfl rfl (any_of HT_.out (by kernel_rfl)) (fun _ _ _ h => h) (Or.inr ⟨by rfl, rfl⟩) ?_ ?_
         rotate_left
         ·simp only [Act.put, s1_, s2_, s3_, i64_w, i32_w]
          rfl
         refine pure_ (i := 10) (N := some 56) (v := undef) (a' := ?_) PJ15_ rfl rfl (any_of HT_.out (by kernel_rfl)) (fun _ _ _ h => h) (Or.inr ⟨by rfl, rfl⟩) ?_ ?_
         rotate_left
         ·simp only [Act.put, s1_, s2_, s3_, i64_w, i32_w]
          rfl
         refine pure_ (i := 11) (N := some 57) (v := undef) (a' := ?_) PJ16_ rfl rfl (any_of HT_.out (by kernel_rfl)) (fun _ _ _ h => h) (Or.inr ⟨by rfl, rfl⟩) ?_ ?_
         rotate_left
         ·simp only [Act.put, s1_, s2_, s3_, i64_w, i32_w]
          rfl
         refine pure_ (i := 12) (N := some 58) (v := ?_) (a' := ?_) PJ17_ rfl rfl (any_of HT_.out (by kernel_rfl)) (fun _ _ _ h => h) (Or.inl ⟨by rfl, ?_⟩) ?_ ?_
         rotate_left
         ·intro w'
          go_simp
          with_reducible rfl
         rotate_left
         ·simp only [Act.put, s1_, s2_, s3_, i64_w, i32_w]
          rfl
         refine pure_ (i := 13) (N := some 59) (v := ?_) (a' := ?_) PJ18_ rfl rfl (any_of HT_.out (by kernel_rfl)) (fun _ _ _ h => h) (Or.inl ⟨by rfl, ?_⟩) ?_ ?_
         rotate_left
         ·intro w'
          go_simp
          with_reducible rfl
         rotate_left
         ·simp only [Act.put, s1_, s2_, s3_, i64_w, i32_w]
          rfl
         refine pure_ (i := 14) (N := some 60) (v := undef) (a' := ?_) PJ19_ rfl rfl (any_of HT_.out (by kernel_rfl)) (fun _ _ _ h => h) (Or.inr ⟨by rfl, rfl⟩) ?_ ?_
         rotate_left
         ·simp only [Act.put, s1_, s2_, s3_, i64_w, i32_w]
          rfl
         refine pure_ (i := 15) (N := some 61) (v := undef) (a' := ?_) PJ25_ rfl rfl (any_of HT_.out (by kernel_rfl)) (fun _ _ _ h => h) (Or.inr ⟨by rfl, rfl⟩) ?_ ?_
         rotate_left
         ·simp only [Act.put, s1_, s2_, s3_, i64_w, i32_w]
          rfl
         refine pure_ (i := 16) (N := some 62) (v := undef) (a' := ?_) PJ26_ rfl rfl (any_of HT_.out (by kernel_rfl)) (fun _ _ _ h => h) (Or.inr ⟨by rfl, rfl⟩) ?_ ?_
         rotate_left
         ·simp only [Act.put, s1_, s2_, s3_, i64_w, i32_w]
          rfl
         refine pure_ (i := 17) (N := some 63) (v := undef) (a' := ?_) PJ27_ rfl rfl (any_of HT_.out (by kernel_rfl)) (fun _ _ _ h => h) (Or.inr ⟨by rfl, rfl⟩) ?_ ?_
         rotate_left
         ·simp only [Act.put, s1_, s2_, s3_, i64_w, i32_w]
          rfl
         refine pure_ (i := 18) (N := some 64) (v := undef) (a' := ?_) PJ20_ rfl rfl (any_of HT_.out (by kernel_rfl)) (fun _ _ _ h => h) (Or.inr ⟨by rfl, rfl⟩) ?_ ?_
         rotate_left
         ·simp only [Act.put, s1_, s2_, s3_, i64_w, i32_w]
          rfl
         refine pure_ (i := 19) (N := some 65) (v := undef) (a' := ?_) PJ21_ rfl rfl (any_of HT_.out (by kernel_rfl)) (fun _ _ _ h => h) (Or.inr ⟨by rfl, rfl⟩) ?_ ?_
         rotate_left
         ·simp only [Act.put, s1_, s2_, s3_, i64_w, i32_w]
          rfl
         refine pure_ (i := 20) (N := some 66) (v := undef) (a' := ?_) PJ22_ rfl rfl (any_of HT_.out (by kernel_rfl)) (fun _ _ _ h => h) (Or.inr ⟨by rfl, rfl⟩) ?_ ?_
         rotate_left
         ·simp only [Act.put, s1_, s2_, s3_, i64_w, i32_w]
          rfl
         refine pure_ (i := 21) (N := some 67) (v := undef) (a' := ?_) PJ23_ rfl rfl (any_of HT_.out (by kernel_rfl)) (fun _ _ _ h => h) (Or.inr ⟨by rfl, rfl⟩) ?_ ?_
         rotate_left
         ·simp only [Act.put, s1_, s2_, s3_, i64_w, i32_w]
          rfl
         refine pure_ (i := 22) (N := some 68) (v := ?_) (a' := ?_) PJ24_ rfl rfl (any_of HT_.out (by kernel_rfl)) (fun _ _ _ h => h) (Or.inl ⟨by rfl, ?_⟩) ?_ ?_
         rotate_left
         ·intro w'
          go_simp
          with_reducible rfl
         rotate_left
         ·simp only [Act.put, s1_, s2_, s3_, i64_w, i32_w]
          rfl
         refine done_ (done_of HT_.out (by kernel_rfl)) ?_
         try go_wp2
         go_meet
         case rel => exact ⟨_, (true), (by first | rfl | (simp; done) | (simp [*]; done)), H', ⟨by have := HJ3.out; first | omega | exact Nat.le_refl _⟩, ⟨by (with_reducible repeat (first | apply Kd.R_alloc | apply Kd.R_drewN | apply Kd.R_drew)); exact Kd.R_mono HO345.out (fun _ hk => ⟨hk.1.1.1, ⟨hk.1.2, hk.2⟩⟩)⟩, ⟨by (with_reducible repeat (first | apply Kd.R_alloc | apply Kd.R_drewN | apply Kd.R_drew)); exact Kd.R_mono HO348.out (fun _ hk => ⟨hk.1.1.1, ⟨hk.1.2, hk.2⟩⟩)⟩, ⟨by (with_reducible repeat (first | apply Kd.R_alloc | apply Kd.R_drewN | apply Kd.R_drew)); exact Kd.R_mono HO351.out (fun _ hk => ⟨hk.1.1.1, ⟨hk.1.2, hk.2⟩⟩)⟩, ⟨by (with_reducible repeat (first | apply Kd.V_alloc | apply Kd.V_drewN | apply Kd.V_drew)); exact Kd.V_mono HO_328a.out (fun _ hk => ⟨hk.1.1.1.1, ⟨hk.1.1.2, ⟨hk.1.2, ⟨hk.2, ⟨hk.1.1.1.2.1, ⟨hk.1.1.1.2.2.1, ⟨hk.1.1.1.2.2.2.1, hk.1.1.1.2.2.2.2⟩⟩⟩⟩⟩⟩⟩)⟩, ⟨by (with_reducible repeat (first | apply Kd.V_alloc | apply Kd.V_drewN | apply Kd.V_drew)); exact Kd.V_mono HO_329a.out (fun _ hk => ⟨hk.1.1.1.1, ⟨hk.1.1.2, ⟨hk.1.2, ⟨hk.2, ⟨hk.1.1.1.2.1, ⟨hk.1.1.1.2.2.1, ⟨hk.1.1.1.2.2.2.1, hk.1.1.1.2.2.2.2⟩⟩⟩⟩⟩⟩⟩)⟩, ⟨by (with_reducible repeat (first | apply Kd.N_alloc | apply Kd.N_drewN | apply Kd.N_drew)); exact Kd.N_mono HO341.out (fun _ hk => ⟨hk.1.1.1.1, ⟨hk.1.1.2, ⟨hk.1.2, ⟨hk.2, ⟨hk.1.1.1.2.1, ⟨hk.1.1.1.2.2.1, hk.1.1.1.2.2.2⟩⟩⟩⟩⟩⟩)⟩, ⟨by (with_reducible repeat (first | refine blk_drewN ?_ _ | refine blk_drew ?_ | refine blk_alloc ?_ _)); exact BK327.out⟩, ⟨by (with_reducible repeat (first | refine blk_drewN ?_ _ | refine blk_drew ?_ | refine blk_alloc ?_ _)); exact BK328.out⟩, ⟨by (with_reducible repeat (first | refine blk_drewN ?_ _ | refine blk_drew ?_ | refine blk_alloc ?_ _)); exact BK342.out⟩, ⟨by repeat (first | (with_reducible first | exact HB.out | apply below_alloc | apply pw_below_drewN | apply below_drew1 | refine below_set ?_ GE327.out | refine below_set ?_ GE328.out | refine below_set ?_ GE342.out) | exact HB.out)⟩⟩
       ·rw [if_neg c54] at H
        have c54b0 : ((t343.length : Int) == 30) = false := beq_eq_false_iff_ne.mpr c54
        have c54b1 : ((t343.length : Int) != 30) = true := bne_iff_ne.mpr c54
        (first | rw [c54b0] | (simp only [i64_w, i32_w]; rw [c54b0]) | skip)
        have H' := Am H
        clear H
        try go_wp2
        have n0_ := Am (Kd.V_drew HO_328a.out)
        have n1_ := Am (Kd.V_drew HO_329a.out)
        have n2_ := Am (Kd.N_drew HO341.out)
        have n3_ := Am (Kd.R_drew HO345.out)
        have n4_ := Am (Kd.R_drew HO348.out)
        have n5_ := Am (Kd.R_drew HO351.out)
        have n6_ := Am (blk_drew BK327.out)
        have n7_ := Am (blk_drew BK328.out)
        have n8_ := Am (blk_drew BK342.out)
        have n9_ := Am (below_drew1 HB.out)
        clear HO_328a
        clear HO_329a
        clear HO341
        clear HO345
        clear HO348
        clear HO351
        clear BK327
        clear BK328
        clear BK342
        clear HB
        have HO_328a := n0_
        have HO_329a := n1_
        have HO341 := n2_
        have HO345 := n3_
        have HO348 := n4_
        have HO351 := n5_
        have BK327 := n6_
        have BK328 := n7_
        have BK342 := n8_
        have HB := n9_
        clear n0_ n1_ n2_ n3_ n4_ n5_ n6_ n7_ n8_ n9_
        obtain ⟨Ao75, co75, eo75⟩ := Kd.R_slice HO345.out
        (first | subst eo75 | (injection eo75 with f1_ f2_ f3_; have f4_ := f1_.symm; have f5_ := f3_.symm; clear f1_ f2_ f3_; subst f4_; subst f5_))
        refine start_ (n := 23) (S := fun w' => True) (ds := []) PJ4_ (by kernel_rfl) rfl rfl trivial (fun hHeld => ?_); refine with_tabW entrepotlaw09_PlanJoins.tab7 entrepotlaw09_PlanJoins.bits7 (fun HT_ HW_ => ?_)
        generalize w53.drew = w74 at HO_328a HO_329a HO341 HO345 HO348 HO351 BK327 BK328 BK342 HB hHeld ⊢
        refine pure_ (i := 0) (N := some 46) (v := ?_) (a' := ?_) PJ5_ rfl rfl (any_of HT_.out (by kernel_rfl)) (fun _ _ _ h => h) (Or.inl ⟨by rfl, ?_⟩) ?_ ?_
        rotate_left
        ·intro w'
         go_simp
         with_reducible rfl
        rotate_left
        ·simp only [Act.put, s1_, s2_, s3_, i64_w, i32_w]
         rfl
        refine pure_ (i := 1) (N := some 47) (v := ?_) (a' := ?_) PJ6_ rfl rfl (any_of HT_.out (by kernel_rfl)) (fun _ _ _ h => h) (Or.inl ⟨by rfl, ?_⟩) ?_ ?_
        rotate_left
        ·intro w'
         go_simp
         with_reducible rfl
        rotate_left
        ·simp only [Act.put, s1_, s2_, s3_, i64_w, i32_w]
         rfl
        refine pure_ (i := 2) (N := some 48) (v := ?_) (a' := ?_) PJ7_ rfl rfl (any_of HT_.out (by kernel_rfl)) (fun _ _ _ h => h) (Or.inl ⟨by rfl, ?_⟩) ?_ ?_
        rotate_left
        ·intro w'
         go_simp
         with_reducible rfl
        rotate_left
        ·simp only [Act.put, s1_, s2_, s3_, i64_w, i32_w]
         rfl
        refine pure_ (i := 3) (N := some 49) (v := ?_) (a' := ?_) PJ8_ rfl rfl (any_of HT_.out (by kernel_rfl)) (fun _ _ _ h => h) (Or.inl ⟨by rfl, ?_⟩) ?_ ?_
        rotate_left
        ·intro w'
         go_simp
         with_reducible rfl
        rotate_left
        ·simp only [Act.put, s1_, s2_, s3_, i64_w, i32_w]
         rfl
        refine pure_ (i := 4) (N := some 50) (v := undef) (a' := ?_) PJ9_ rfl rfl (any_of HT_.out (by kernel_rfl)) (fun _ _ _ h => h) (Or.inr ⟨by rfl, rfl⟩) ?_ ?_
        rotate_left
        ·simp only [Act.put, s1_, s2_, s3_, i64_w, i32_w]
         rfl
        refine pure_ (i := 5) (N := some 51) (v := undef) (a' := ?_) PJ10_ rfl rfl (any_of HT_.out (by kernel_rfl)) (fun _ _ _ h => h) (Or.inr ⟨by rfl, rfl⟩) ?_ ?_
        rotate_left
        ·simp only [Act.put, s1_, s2_, s3_, i64_w, i32_w]
         rfl
        refine pure_ (i := 6) (N := some 52) (v := undef) (a' := ?_) PJ11_ rfl rfl (any_of HT_.out (by kernel_rfl)) (fun _ _ _ h => h) (Or.inr ⟨by rfl, rfl⟩) ?_ ?_
        rotate_left
        ·simp only [Act.put, s1_, s2_, s3_, i64_w, i32_w]
         rfl
        refine pure_ (i := 7) (N := some 53) (v := ?_) (a' := ?_) PJ12_ rfl rfl (any_of HT_.out (by kernel_rfl)) (fun _ _ _ h => h) (Or.inl ⟨by rfl, ?_⟩) ?_ ?_
        rotate_left
        ·intro w'
         go_simp
         with_reducible rfl
        rotate_left
        ·simp only [Act.put, s1_, s2_, s3_, i64_w, i32_w]
         rfl
        refine pure_ (i := 8) (N := some 54) (v := ?_) (a' := ?_) PJ13_ rfl rfl (any_of HT_.out (by kernel_rfl)) (fun _ _ _ h => h) (Or.inl ⟨by rfl, ?_⟩) ?_ ?_
        rotate_left
        ·intro w'
         go_simp
         with_reducible rfl
        rotate_left
        ·simp only [Act.put, s1_, s2_, s3_, i64_w, i32_w]
         rfl
        refine pure_ (i := 9) (N := some 55) (v := undef) (a' := ?_) PJ14_ rfl rfl (any_of HT_.out (by kernel_rfl)) (fun _ _ _ h => h) (Or.inr ⟨by rfl, rfl⟩) ?_ ?_
        rotate_left
        ·simp only [Act.put, s1_, s2_, s3_, i64_w, i32_w]
         rfl
        refine pure_ (i := 10) (N := some 56) (v := undef) (a' := ?_) PJ15_ rfl rfl (any_of HT_.out (by kernel_rfl)) (fun _ _ _ h => h) (Or.inr ⟨by rfl, rfl⟩) ?_ ?_
        rotate_left
        ·simp only [Act.put, s1_, s2_, s3_, i64_w, i32_w]
         rfl
        refine pure_ (i := 11) (N := some 57) (v := undef) (a' := ?_) PJ16_ rfl rfl (any_of HT_.out (by kernel_rfl)) (fun _ _ _ h => h) (Or.inr ⟨by rfl, rfl⟩) ?_ ?_
        rotate_left
        ·simp only [Act.put, s1_, s2_, s3_, i64_w, i32_w]
         rfl
        refine pure_ (i := 12) (N := some 58) (v := ?_) (a' := ?_) PJ17_ rfl rfl (any_of HT_.out (by kernel_rfl)) (fun _ _ _ h => h) (Or.inl ⟨by rfl, ?_⟩) ?_ ?_
        rotate_left
        ·intro w'
         go_simp
         with_reducible rfl
        rotate_left
        ·simp only [Act.put, s1_, s2_, s3_, i64_w, i32_w]
         rfl
        refine pure_ (i := 13) (N := some 59) (v := ?_) (a' := ?_) PJ18_ rfl rfl (any_of HT_.out (by kernel_rfl)) (fun _ _ _ h => h) (Or.inl ⟨by rfl, ?_⟩) ?_ ?_
        rotate_left
        ·intro w'
         go_simp
         with_reducible rfl
        rotate_left
        ·simp only [Act.put, s1_, s2_, s3_, i64_w, i32_w]
         rfl
        refine pure_ (i := 14) (N := some 60) (v := undef) (a' := ?_) PJ19_ rfl rfl (any_of HT_.out (by kernel_rfl)) (fun _ _ _ h => h) (Or.inr ⟨by rfl, rfl⟩) ?_ ?_
        rotate_left
        ·simp only [Act.put, s1_, s2_, s3_, i64_w, i32_w]
         rfl
        refine pure_ (i := 15) (N := some 61) (v := undef) (a' := ?_) PJ25_ rfl rfl (any_of HT_.out (by kernel_rfl)) (fun _ _ _ h => h) (Or.inr ⟨by rfl, rfl⟩) ?_ ?_
        rotate_left
        ·simp only [Act.put, s1_, s2_, s3_, i64_w, i32_w]
         rfl
        refine pure_ (i := 16) (N := some 62) (v := undef) (a' := ?_) PJ26_ rfl rfl (any_of HT_.out (by kernel_rfl)) (fun _ _ _ h => h) (Or.inr ⟨by rfl, rfl⟩) ?_ ?_
        rotate_left
        ·simp only [Act.put, s1_, s2_, s3_, i64_w, i32_w]
         rfl
        refine pure_ (i := 17) (N := some 63) (v := undef) (a' := ?_) PJ27_ rfl rfl (any_of HT_.out (by kernel_rfl)) (fun _ _ _ h => h) (Or.inr ⟨by rfl, rfl⟩) ?_ ?_
        rotate_left
        ·simp only [Act.put, s1_, s2_, s3_, i64_w, i32_w]
         rfl
        refine pure_ (i := 18) (N := some 64) (v := undef) (a' := ?_) PJ20_ rfl rfl (any_of HT_.out (by kernel_rfl)) (fun _ _ _ h => h) (Or.inr ⟨by rfl, rfl⟩) ?_ ?_
        rotate_left
        ·simp only [Act.put, s1_, s2_, s3_, i64_w, i32_w]
         rfl
        refine pure_ (i := 19) (N := some 65) (v := undef) (a' := ?_) PJ21_ rfl rfl (any_of HT_.out (by kernel_rfl)) (fun _ _ _ h => h) (Or.inr ⟨by rfl, rfl⟩) ?_ ?_
        rotate_left
        ·simp only [Act.put, s1_, s2_, s3_, i64_w, i32_w]
         rfl
        refine pure_ (i := 20) (N := some 66) (v := undef) (a' := ?_) PJ22_ rfl rfl (any_of HT_.out (by kernel_rfl)) (fun _ _ _ h => h) (Or.inr ⟨by rfl, rfl⟩) ?_ ?_
        rotate_left
        ·simp only [Act.put, s1_, s2_, s3_, i64_w, i32_w]
         rfl
        refine pure_ (i := 21) (N := some 67) (v := undef) (a' := ?_) PJ23_ rfl rfl (any_of HT_.out (by kernel_rfl)) (fun _ _ _ h => h) (Or.inr ⟨by rfl, rfl⟩) ?_ ?_
        rotate_left
        ·simp only [Act.put, s1_, s2_, s3_, i64_w, i32_w]
         rfl
        refine pure_ (i := 22) (N := some 68) (v := ?_) (a' := ?_) PJ24_ rfl rfl (any_of HT_.out (by kernel_rfl)) (fun _ _ _ h => h) (Or.inl ⟨by rfl, ?_⟩) ?_ ?_
        rotate_left
        ·intro w'
         go_simp
         with_reducible rfl
        rotate_left
        ·simp only [Act.put, s1_, s2_, s3_, i64_w, i32_w]
         rfl
        refine done_ (done_of HT_.out (by kernel_rfl)) ?_
        try go_wp2
        go_meet
        case rel => exact ⟨_, (true), (by first | rfl | (simp; done) | (simp [*]; done)), H', ⟨by have := HJ3.out; first | omega | exact Nat.le_refl _⟩, ⟨by (with_reducible repeat (first | apply Kd.R_alloc | apply Kd.R_drewN | apply Kd.R_drew)); exact Kd.R_mono HO345.out (fun _ hk => ⟨hk.1.1.1, ⟨hk.1.2, hk.2⟩⟩)⟩, ⟨by (with_reducible repeat (first | apply Kd.R_alloc | apply Kd.R_drewN | apply Kd.R_drew)); exact Kd.R_mono HO348.out (fun _ hk => ⟨hk.1.1.1, ⟨hk.1.2, hk.2⟩⟩)⟩, ⟨by (with_reducible repeat (first | apply Kd.R_alloc | apply Kd.R_drewN | apply Kd.R_drew)); exact Kd.R_mono HO351.out (fun _ hk => ⟨hk.1.1.1, ⟨hk.1.2, hk.2⟩⟩)⟩, ⟨by (with_reducible repeat (first | apply Kd.V_alloc | apply Kd.V_drewN | apply Kd.V_drew)); exact Kd.V_mono HO_328a.out (fun _ hk => ⟨hk.1.1.1.1, ⟨hk.1.1.2, ⟨hk.1.2, ⟨hk.2, ⟨hk.1.1.1.2.1, ⟨hk.1.1.1.2.2.1, ⟨hk.1.1.1.2.2.2.1, hk.1.1.1.2.2.2.2⟩⟩⟩⟩⟩⟩⟩)⟩, ⟨by (with_reducible repeat (first | apply Kd.V_alloc | apply Kd.V_drewN | apply Kd.V_drew)); exact Kd.V_mono HO_329a.out (fun _ hk => ⟨hk.1.1.1.1, ⟨hk.1.1.2, ⟨hk.1.2, ⟨hk.2, ⟨hk.1.1.1.2.1, ⟨hk.1.1.1.2.2.1, ⟨hk.1.1.1.2.2.2.1, hk.1.1.1.2.2.2.2⟩⟩⟩⟩⟩⟩⟩)⟩, ⟨by (with_reducible repeat (first | apply Kd.N_alloc | apply Kd.N_drewN | apply Kd.N_drew)); exact Kd.N_mono HO341.out (fun _ hk => ⟨hk.1.1.1.1, ⟨hk.1.1.2, ⟨hk.1.2, ⟨hk.2, ⟨hk.1.1.1.2.1, ⟨hk.1.1.1.2.2.1, hk.1.1.1.2.2.2⟩⟩⟩⟩⟩⟩)⟩, ⟨by (with_reducible repeat (first | refine blk_drewN ?_ _ | refine blk_drew ?_ | refine blk_alloc ?_ _)); exact BK327.out⟩, ⟨by (with_reducible repeat (first | refine blk_drewN ?_ _ | refine blk_drew ?_ | refine blk_alloc ?_ _)); exact BK328.out⟩, ⟨by (with_reducible repeat (first | refine blk_drewN ?_ _ | refine blk_drew ?_ | refine blk_alloc ?_ _)); exact BK342.out⟩, ⟨by repeat (first | (with_reducible first | exact HB.out | apply below_alloc | apply pw_below_drewN | apply below_drew1 | refine below_set ?_ GE327.out | refine below_set ?_ GE328.out | refine below_set ?_ GE342.out) | exact HB.out)⟩⟩
      case rest =>
       clear HC34
       obtain ⟨kq, x68_33, rfl, HA, HJ33, HO_8, HO_9, HO_10, HO_328a, HO_329a, HO_343a, BK327, BK328, BK342, HB⟩ := hcut
       cases kq with
       | zero => exact absurd HA.out (by simp [entrepotlaw09_PlanJoins.j1])
       | succ kj33 =>
        have H := HA.out
        clear HA
        simp only [entrepotlaw09_PlanJoins.j1] at H
        by_cases c76 : x68_33 = true
        ·subst c76
         have H1 : (some false) = some r := by rw [if_pos rfl] at H; exact H
         clear H
         have H := H1
         clear H1
         obtain rfl := Option.some.inj H
         go_wp2
         go_ret
         exact ⟨by first | rfl | (simp [errW_none, errW_some] <;> rfl) | (simp [*, errW_none, errW_some] <;> rfl), by repeat (first | (with_reducible first | exact HB.out | apply below_alloc | apply pw_below_drewN | apply below_drew1 | refine below_set ?_ GE327.out | refine below_set ?_ GE328.out | refine below_set ?_ GE342.out) | exact HB.out)⟩
        ·replace c76 := Bool.eq_false_iff.mpr c76
         subst c76
         have H1 : (entrepotlaw09_PlanJoins.l0 kj33 a2 t343 t346 t349 0 l0_0 l1_0 y339) = some r := by rw [if_neg (show ¬ (false = true) by decide)] at H; exact H
         clear H
         have H := H1
         clear H1
         have H' := Am H
         clear H
         go_wp2
         go_loopg [11] kj33 (fun kq v11 w' => ∃ (x11_3 : Int), v11 = .int .i64 x11_3 ∧ Aside0 (entrepotlaw09_PlanJoins.l0 kq a2 t343 t346 t349 x11_3 l0_0 l1_0 y339 = some r) ∧ Aside0 (kq ≤ kj33) ∧ Aside0 (Kd.R (Kd.int .i64) 3 w' w.heap.size (fun k_ => (w.heap.size ≤ k_) ∧ some k_ ≠ (v347 : Value).ownBlock ∧ some k_ ≠ (v350 : Value).ownBlock) v344 t343) ∧ Aside0 (Kd.R (Kd.int .i64) 3 w' w.heap.size (fun k_ => (w.heap.size ≤ k_) ∧ some k_ ≠ (v344 : Value).ownBlock ∧ some k_ ≠ (v350 : Value).ownBlock) v347 t346) ∧ Aside0 (Kd.R (Kd.int .i64) 3 w' w.heap.size (fun k_ => (w.heap.size ≤ k_) ∧ some k_ ≠ (v344 : Value).ownBlock ∧ some k_ ≠ (v347 : Value).ownBlock) v350 t349) ∧ Aside0 (Kd.V (Kd.slice 3 (Kd.int .i64)) 33 w' w.heap.size (fun k_ => ((P0_0_ k_ ∨ P1_0_ k_) ∨ w.heap.size ≤ k_) ∧ some k_ ≠ (v344 : Value).ownBlock ∧ some k_ ≠ (v347 : Value).ownBlock ∧ some k_ ≠ (v350 : Value).ownBlock ∧ some k_ ≠ ((.slice Ao43 y339.length co43) : Value).ownBlock ∧ k_ ≠ gb327 ∧ k_ ≠ gb328 ∧ k_ ≠ gb342) (.slice A0_0 l0_0.length c0_0) l0_0) ∧ Aside0 (Kd.V (Kd.slice 3 (Kd.int .i64)) 33 w' w.heap.size (fun k_ => ((P0_0_ k_ ∨ P1_0_ k_) ∨ w.heap.size ≤ k_) ∧ some k_ ≠ (v344 : Value).ownBlock ∧ some k_ ≠ (v347 : Value).ownBlock ∧ some k_ ≠ (v350 : Value).ownBlock ∧ some k_ ≠ ((.slice Ao43 y339.length co43) : Value).ownBlock ∧ k_ ≠ gb327 ∧ k_ ≠ gb328 ∧ k_ ≠ gb342) (.slice A1_0 l1_0.length c1_0) l1_0) ∧ Aside0 (Kd.N (Kd.slice 3 (Kd.int .i64)) 33 w' w.heap.size (fun k_ => ((P0_0_ k_ ∨ P1_0_ k_) ∨ w.heap.size ≤ k_) ∧ some k_ ≠ (v344 : Value).ownBlock ∧ some k_ ≠ (v347 : Value).ownBlock ∧ some k_ ≠ (v350 : Value).ownBlock ∧ k_ ≠ gb327 ∧ k_ ≠ gb328 ∧ k_ ≠ gb342) (.slice Ao43 y339.length co43) y339) ∧ Aside0 (w'.heap[gb327]? = some (.cells #[(.slice A0_0 l0_0.length c0_0)] 24 (0, 0))) ∧ Aside0 (w'.heap[gb328]? = some (.cells #[(.slice A1_0 l1_0.length c1_0)] 24 (0, 0))) ∧ Aside0 (w'.heap[gb342]? = some (.cells #[(.slice Ao43 y339.length co43)] 24 (0, 0))) ∧ Aside0 (Below w.heap.size w w'))
         case atStart => exact ⟨(0), (by first | rfl | (simp; done) | (simp [*]; done)), H', ⟨Nat.le_refl _⟩, ⟨by (with_reducible repeat (first | apply Kd.R_alloc | apply Kd.R_drewN | apply Kd.R_drew)); exact HO_8.out⟩, ⟨by (with_reducible repeat (first | apply Kd.R_alloc | apply Kd.R_drewN | apply Kd.R_drew)); exact HO_9.out⟩, ⟨by (with_reducible repeat (first | apply Kd.R_alloc | apply Kd.R_drewN | apply Kd.R_drew)); exact HO_10.out⟩, ⟨by (with_reducible repeat (first | apply Kd.V_alloc | apply Kd.V_drewN | apply Kd.V_drew)); exact HO_328a.out⟩, ⟨by (with_reducible repeat (first | apply Kd.V_alloc | apply Kd.V_drewN | apply Kd.V_drew)); exact HO_329a.out⟩, ⟨by (with_reducible repeat (first | apply Kd.N_alloc | apply Kd.N_drewN | apply Kd.N_drew)); exact HO_343a.out⟩, ⟨by (with_reducible repeat (first | refine blk_drewN ?_ _ | refine blk_drew ?_ | refine blk_alloc ?_ _)); exact BK327.out⟩, ⟨by (with_reducible repeat (first | refine blk_drewN ?_ _ | refine blk_drew ?_ | refine blk_alloc ?_ _)); exact BK328.out⟩, ⟨by (with_reducible repeat (first | refine blk_drewN ?_ _ | refine blk_drew ?_ | refine blk_alloc ?_ _)); exact BK342.out⟩, ⟨by repeat (first | (with_reducible first | exact HB.out | apply below_alloc | apply pw_below_drewN | apply below_drew1 | refine below_set ?_ GE327.out | refine below_set ?_ GE328.out | refine below_set ?_ GE342.out) | exact HB.out)⟩⟩
         case round =>
          clear H'
          (try clear c76)
          obtain ⟨x11_3, rfl, HA, HK3, HO_8, HO_9, HO_10, HO_328a, HO_329a, HO_343a, BK327, BK328, BK342, HB⟩ := hrel
          cases gk with
          | zero => exact absurd HA.out (by simp [entrepotlaw09_PlanJoins.l0])
          | succ k3 =>
           have H := HA.out
           clear HA
           simp only [entrepotlaw09_PlanJoins.l0] at H
           by_cases c77 : x11_3 < 30
           ·rw [if_pos c77] at H
            have c77b0 : decide (x11_3 < 30) = true := decide_eq_true c77
            clear c77
            by_cases c78 : 0 ≤ x11_3
            ·rw [if_pos c78] at H
             have c78b0 : decide (0 ≤ x11_3) = true := decide_eq_true c78
             clear c78
             by_cases c79 : x11_3 < (t349.length : Int)
             ·rw [if_pos c79] at H
              have c79b0 : decide (x11_3 < (t349.length : Int)) = true := decide_eq_true c79
              clear c79
              by_cases c80 : x11_3 < (t343.length : Int)
              ·rw [if_pos c80] at H
               have c80b0 : decide (x11_3 < (t343.length : Int)) = true := decide_eq_true c80
               clear c80
               by_cases c81 : x11_3 < (t346.length : Int)
               ·rw [if_pos c81] at H
                have c81b0 : decide (x11_3 < (t346.length : Int)) = true := decide_eq_true c81
                clear c81
                by_cases c82 : (rd t349 x11_3) = (wrap64 ((rd t343 x11_3) + (rd t346 x11_3)))
                ·rw [if_pos c82] at H
                 have c82b0 : ((rd t349 x11_3) == (wrap64 ((rd t343 x11_3) + (rd t346 x11_3)))) = true := beq_iff_eq.mpr c82
                 have c82b1 : ((rd t349 x11_3) != (wrap64 ((rd t343 x11_3) + (rd t346 x11_3)))) = false := bne_eq_false_iff_eq.mpr c82
                 clear c82
                 have H' := Am H
                 clear H
                 try go_wp2
                 have n0_ := Am (Kd.R_drew HO_8.out)
                 have n1_ := Am (Kd.R_drew HO_9.out)
                 have n2_ := Am (Kd.R_drew HO_10.out)
                 have n3_ := Am (Kd.V_drew HO_328a.out)
                 have n4_ := Am (Kd.V_drew HO_329a.out)
                 have n5_ := Am (Kd.N_drew HO_343a.out)
                 have n6_ := Am (blk_drew BK327.out)
                 have n7_ := Am (blk_drew BK328.out)
                 have n8_ := Am (blk_drew BK342.out)
                 have n9_ := Am (below_drew1 HB.out)
                 clear HO_8
                 clear HO_9
                 clear HO_10
                 clear HO_328a
                 clear HO_329a
                 clear HO_343a
                 clear BK327
                 clear BK328
                 clear BK342
                 clear HB
                 have HO_8 := n0_
                 have HO_9 := n1_
                 have HO_10 := n2_
                 have HO_328a := n3_
                 have HO_329a := n4_
                 have HO_343a := n5_
                 have BK327 := n6_
                 have BK328 := n7_
                 have BK342 := n8_
                 have HB := n9_
                 clear n0_ n1_ n2_ n3_ n4_ n5_ n6_ n7_ n8_ n9_
                 obtain ⟨Ao84, co84, eo84⟩ := Kd.R_slice HO_10.out
                 (first | subst eo84 | (injection eo84 with f1_ f2_ f3_; have f4_ := f1_.symm; have f5_ := f3_.symm; clear f1_ f2_ f3_; subst f4_; subst f5_))
                 have p355 : 0 ≤ (x11_3 : Int) := of_decide_eq_true (by first | (with_reducible assumption) | assumption)
                 have q355 : x11_3 < (t349.length : Int) := of_decide_eq_true (by first | (with_reducible assumption) | assumption)
                 obtain ⟨ad355, e355, hx355_0⟩ := Kd.at_int (Kd.R_reads' HO_10.out).2.2 x11_3 p355 q355
                 cases e355
                 replace p355 := eq_true p355
                 replace q355 := eq_true q355
                 obtain ⟨Ao85, co85, eo85⟩ := Kd.R_slice HO_8.out
                 (first | subst eo85 | (injection eo85 with f1_ f2_ f3_; have f4_ := f1_.symm; have f5_ := f3_.symm; clear f1_ f2_ f3_; subst f4_; subst f5_))
                 have p356 : 0 ≤ (x11_3 : Int) := of_decide_eq_true (by first | (with_reducible assumption) | assumption)
                 have q356 : x11_3 < (t343.length : Int) := of_decide_eq_true (by first | (with_reducible assumption) | assumption)
                 obtain ⟨ad356, e356, hx356_0⟩ := Kd.at_int (Kd.R_reads' HO_8.out).2.2 x11_3 p356 q356
                 cases e356
                 replace p356 := eq_true p356
                 replace q356 := eq_true q356
                 obtain ⟨Ao86, co86, eo86⟩ := Kd.R_slice HO_9.out
                 (first | subst eo86 | (injection eo86 with f1_ f2_ f3_; have f4_ := f1_.symm; have f5_ := f3_.symm; clear f1_ f2_ f3_; subst f4_; subst f5_))
                 have p357 : 0 ≤ (x11_3 : Int) := of_decide_eq_true (by first | (with_reducible assumption) | assumption)
                 have q357 : x11_3 < (t346.length : Int) := of_decide_eq_true (by first | (with_reducible assumption) | assumption)
                 obtain ⟨ad357, e357, hx357_0⟩ := Kd.at_int (Kd.R_reads' HO_9.out).2.2 x11_3 p357 q357
                 cases e357
                 replace p357 := eq_true p357
                 replace q357 := eq_true q357
                 refine start_ (n := 14) (S := fun w' => w'.cell? (ad355.add (x11_3).toNat) = some (.int .i64 (rd t349 x11_3)) ∧ w'.cell? (ad356.add (x11_3).toNat) = some (.int .i64 (rd t343 x11_3)) ∧ w'.cell? (ad357.add (x11_3).toNat) = some (.int .i64 (rd t346 x11_3))) (ds := []) PJ28_ (by kernel_rfl) rfl rfl ⟨hx355_0, hx356_0, hx357_0⟩ (fun hHeld => ?_); refine with_tabW entrepotlaw09_PlanJoins.tab12 entrepotlaw09_PlanJoins.bits12 (fun HT_ HW_ => ?_)
                 generalize wr.drew = w83 at HO_8 HO_9 HO_10 HO_328a HO_329a HO_343a BK327 BK328 BK342 HB hx355_0 hx356_0 hx357_0 hHeld ⊢
                 refine pure_ (i := 0) (N := some 73) (v := ?_) (a' := ?_) PJ29_ rfl rfl (any_of HT_.out (by kernel_rfl)) (fun _ _ _ h => h) (Or.inl ⟨by rfl, ?_⟩) ?_ ?_
                 rotate_left
                 ·intro w'
                  go_simp
                  with_reducible rfl
                 rotate_left
                 ·simp only [Act.put, s1_, s2_, s3_, i64_w, i32_w]
                  rfl
                 refine pure_ (i := 1) (N := some 74) (v := ?_) (a' := ?_) PJ30_ rfl rfl (any_of HT_.out (by kernel_rfl)) (fun _ _ _ h => h) (Or.inl ⟨by rfl, ?_⟩) ?_ ?_
                 rotate_left
                 ·intro w'
                  go_simp
                  with_reducible rfl
                 rotate_left
                 ·simp only [Act.put, s1_, s2_, s3_, i64_w, i32_w]
                  rfl
                 refine pure_ (i := 2) (N := some 75) (v := ?_) (a' := ?_) PJ31_ rfl rfl (any_of HT_.out (by kernel_rfl)) (fun _ _ _ h => h) (Or.inl ⟨by rfl, ?_⟩) ?_ ?_
                 rotate_left
                 ·intro w'
                  go_simp
                  with_reducible rfl
                 rotate_left
                 ·simp only [Act.put, s1_, s2_, s3_, i64_w, i32_w]
                  rfl
                 refine pure_ (i := 4) (N := some 77) (v := ?_) (a' := ?_) PJ32_ rfl rfl (any_of HT_.out (by kernel_rfl)) (fun _ _ _ h => h) (Or.inl ⟨by rfl, ?_⟩) ?_ ?_
                 rotate_left
                 ·intro w'
                  go_simp
                  with_reducible rfl
                 rotate_left
                 ·simp only [Act.put, s1_, s2_, s3_, i64_w, i32_w]
                  rfl
                 refine pure_ (i := 5) (N := some 78) (v := ?_) (a' := ?_) PJ33_ rfl rfl (any_of HT_.out (by kernel_rfl)) (fun _ _ _ h => h) (Or.inl ⟨by rfl, ?_⟩) ?_ ?_
                 rotate_left
                 ·intro w'
                  go_simp
                  with_reducible rfl
                 rotate_left
                 ·simp only [Act.put, s1_, s2_, s3_, i64_w, i32_w]
                  rfl
                 refine pure_ (i := 6) (N := some 79) (v := ?_) (a' := ?_) PJ34_ rfl rfl (any_of HT_.out (by kernel_rfl)) (fun _ _ _ h => h) (Or.inl ⟨by rfl, ?_⟩) ?_ ?_
                 rotate_left
                 ·intro w'
                  go_simp
                  with_reducible rfl
                 rotate_left
                 ·simp only [Act.put, s1_, s2_, s3_, i64_w, i32_w]
                  rfl
                 refine pure_ (i := 8) (N := some 81) (v := ?_) (a' := ?_) PJ35_ rfl rfl (any_of HT_.out (by kernel_rfl)) (fun _ _ _ h => h) (Or.inl ⟨by rfl, ?_⟩) ?_ ?_
                 rotate_left
                 ·intro w'
                  go_simp
                  with_reducible rfl
                 rotate_left
                 ·simp only [Act.put, s1_, s2_, s3_, i64_w, i32_w]
                  rfl
                 refine pure_ (i := 9) (N := some 82) (v := ?_) (a' := ?_) PJ36_ rfl rfl (any_of HT_.out (by kernel_rfl)) (fun _ _ _ h => h) (Or.inl ⟨by rfl, ?_⟩) ?_ ?_
                 rotate_left
                 ·intro w'
                  go_simp
                  with_reducible rfl
                 rotate_left
                 ·simp only [Act.put, s1_, s2_, s3_, i64_w, i32_w]
                  rfl
                 refine pure_ (i := 10) (N := some 83) (v := ?_) (a' := ?_) PJ37_ rfl rfl (any_of HT_.out (by kernel_rfl)) (fun _ _ _ h => h) (Or.inl ⟨by rfl, ?_⟩) ?_ ?_
                 rotate_left
                 ·intro w'
                  go_simp
                  with_reducible rfl
                 rotate_left
                 ·simp only [Act.put, s1_, s2_, s3_, i64_w, i32_w]
                  rfl
                 refine take_ (i := 3) (N := some 76) (v := ?_) (a' := ?_) PJ38_ rfl rfl (take_ofW HT_.out HW_.out (by kernel_rfl)) (fun _ _ _ h => h) (Or.inl ⟨by rfl, ?_⟩) hHeld ?_ ?_
                 rotate_left
                 ·rintro w' ⟨s0, s1, s2⟩
                  go_simp
                  with_reducible rfl
                 rotate_left
                 ·simp only [Act.put, s1_, s2_, s3_, i64_w, i32_w]
                  rfl
                 refine take_ (i := 7) (N := some 80) (v := ?_) (a' := ?_) PJ39_ rfl rfl (take_ofW HT_.out HW_.out (by kernel_rfl)) (fun _ _ _ h => h) (Or.inl ⟨by rfl, ?_⟩) hHeld ?_ ?_
                 rotate_left
                 ·rintro w' ⟨s0, s1, s2⟩
                  go_simp
                  with_reducible rfl
                 rotate_left
                 ·simp only [Act.put, s1_, s2_, s3_, i64_w, i32_w]
                  rfl
                 refine take_ (i := 11) (N := some 84) (v := ?_) (a' := ?_) PJ40_ rfl rfl (take_ofW HT_.out HW_.out (by kernel_rfl)) (fun _ _ _ h => h) (Or.inl ⟨by rfl, ?_⟩) hHeld ?_ ?_
                 rotate_left
                 ·rintro w' ⟨s0, s1, s2⟩
                  go_simp
                  with_reducible rfl
                 rotate_left
                 ·simp only [Act.put, s1_, s2_, s3_, i64_w, i32_w]
                  rfl
                 refine pure_ (i := 12) (N := some 85) (v := ?_) (a' := ?_) PJ41_ rfl rfl (any_of HT_.out (by kernel_rfl)) (fun _ _ _ h => h) (Or.inl ⟨by rfl, ?_⟩) ?_ ?_
                 rotate_left
                 ·intro w'
                  go_simp
                  with_reducible rfl
                 rotate_left
                 ·simp only [Act.put, s1_, s2_, s3_, i64_w, i32_w]
                  rfl
                 refine pure_ (i := 13) (N := some 86) (v := ?_) (a' := ?_) PJ42_ rfl rfl (any_of HT_.out (by kernel_rfl)) (fun _ _ _ h => h) (Or.inl ⟨by rfl, ?_⟩) ?_ ?_
                 rotate_left
                 ·intro w'
                  go_simp
                  with_reducible rfl
                 rotate_left
                 ·simp only [Act.put, s1_, s2_, s3_, i64_w, i32_w]
                  rfl
                 refine done_ (done_of HT_.out (by kernel_rfl)) ?_
                 try go_wp2
                 go_roundg k3
                 case measure => have := HJ3.out; have := HJ33.out; have := HK3.out; omega
                 case rel => exact ⟨(wrap64 (x11_3 + 1)), (by first | rfl | (simp; done) | (simp [*]; done)), H', ⟨by have := HJ3.out; have := HJ33.out; have := HK3.out; omega⟩, ⟨by (with_reducible repeat (first | apply Kd.R_alloc | apply Kd.R_drewN | apply Kd.R_drew)); exact HO_8.out⟩, ⟨by (with_reducible repeat (first | apply Kd.R_alloc | apply Kd.R_drewN | apply Kd.R_drew)); exact HO_9.out⟩, ⟨by (with_reducible repeat (first | apply Kd.R_alloc | apply Kd.R_drewN | apply Kd.R_drew)); exact HO_10.out⟩, ⟨by (with_reducible repeat (first | apply Kd.V_alloc | apply Kd.V_drewN | apply Kd.V_drew)); exact HO_328a.out⟩, ⟨by (with_reducible repeat (first | apply Kd.V_alloc | apply Kd.V_drewN | apply Kd.V_drew)); exact HO_329a.out⟩, ⟨by (with_reducible repeat (first | apply Kd.N_alloc | apply Kd.N_drewN | apply Kd.N_drew)); exact HO_343a.out⟩, ⟨by (with_reducible repeat (first | refine blk_drewN ?_ _ | refine blk_drew ?_ | refine blk_alloc ?_ _)); exact BK327.out⟩, ⟨by (with_reducible repeat (first | refine blk_drewN ?_ _ | refine blk_drew ?_ | refine blk_alloc ?_ _)); exact BK328.out⟩, ⟨by (with_reducible repeat (first | refine blk_drewN ?_ _ | refine blk_drew ?_ | refine blk_alloc ?_ _)); exact BK342.out⟩, ⟨by repeat (first | (with_reducible first | exact HB.out | apply below_alloc | apply pw_below_drewN | apply below_drew1 | refine below_set ?_ GE327.out | refine below_set ?_ GE328.out | refine below_set ?_ GE342.out) | exact HB.out)⟩⟩
                ·rw [if_neg c82] at H
                 have c82b0 : ((rd t349 x11_3) == (wrap64 ((rd t343 x11_3) + (rd t346 x11_3)))) = false := beq_eq_false_iff_ne.mpr c82
                 have c82b1 : ((rd t349 x11_3) != (wrap64 ((rd t343 x11_3) + (rd t346 x11_3)))) = true := bne_iff_ne.mpr c82
                 obtain rfl := Option.some.inj H
                 try go_wp2
                 have n0_ := Am (Kd.R_drew HO_8.out)
                 have n1_ := Am (Kd.R_drew HO_9.out)
                 have n2_ := Am (Kd.R_drew HO_10.out)
                 have n3_ := Am (Kd.V_drew HO_328a.out)
                 have n4_ := Am (Kd.V_drew HO_329a.out)
                 have n5_ := Am (Kd.N_drew HO_343a.out)
                 have n6_ := Am (blk_drew BK327.out)
                 have n7_ := Am (blk_drew BK328.out)
                 have n8_ := Am (blk_drew BK342.out)
                 have n9_ := Am (below_drew1 HB.out)
                 clear HO_8
                 clear HO_9
                 clear HO_10
                 clear HO_328a
                 clear HO_329a
                 clear HO_343a
                 clear BK327
                 clear BK328
                 clear BK342
                 clear HB
                 have HO_8 := n0_
                 have HO_9 := n1_
                 have HO_10 := n2_
                 have HO_328a := n3_
                 have HO_329a := n4_
                 have HO_343a := n5_
                 have BK327 := n6_
                 have BK328 := n7_
                 have BK342 := n8_
                 have HB := n9_
                 clear n0_ n1_ n2_ n3_ n4_ n5_ n6_ n7_ n8_ n9_
                 obtain ⟨Ao88, co88, eo88⟩ := Kd.R_slice HO_10.out
                 (first | subst eo88 | (injection eo88 with f1_ f2_ f3_; have f4_ := f1_.symm; have f5_ := f3_.symm; clear f1_ f2_ f3_; subst f4_; subst f5_))
                 have p355 : 0 ≤ (x11_3 : Int) := of_decide_eq_true (by first | (with_reducible assumption) | assumption)
                 have q355 : x11_3 < (t349.length : Int) := of_decide_eq_true (by first | (with_reducible assumption) | assumption)
                 obtain ⟨ad355, e355, hx355_0⟩ := Kd.at_int (Kd.R_reads' HO_10.out).2.2 x11_3 p355 q355
                 cases e355
                 replace p355 := eq_true p355
                 replace q355 := eq_true q355
                 obtain ⟨Ao89, co89, eo89⟩ := Kd.R_slice HO_8.out
                 (first | subst eo89 | (injection eo89 with f1_ f2_ f3_; have f4_ := f1_.symm; have f5_ := f3_.symm; clear f1_ f2_ f3_; subst f4_; subst f5_))
                 have p356 : 0 ≤ (x11_3 : Int) := of_decide_eq_true (by first | (with_reducible assumption) | assumption)
                 have q356 : x11_3 < (t343.length : Int) := of_decide_eq_true (by first | (with_reducible assumption) | assumption)
                 obtain ⟨ad356, e356, hx356_0⟩ := Kd.at_int (Kd.R_reads' HO_8.out).2.2 x11_3 p356 q356
                 cases e356
                 replace p356 := eq_true p356
                 replace q356 := eq_true q356
                 obtain ⟨Ao90, co90, eo90⟩ := Kd.R_slice HO_9.out
                 (first | subst eo90 | (injection eo90 with f1_ f2_ f3_; have f4_ := f1_.symm; have f5_ := f3_.symm; clear f1_ f2_ f3_; subst f4_; subst f5_))
                 have p357 : 0 ≤ (x11_3 : Int) := of_decide_eq_true (by first | (with_reducible assumption) | assumption)
                 have q357 : x11_3 < (t346.length : Int) := of_decide_eq_true (by first | (with_reducible assumption) | assumption)
                 obtain ⟨ad357, e357, hx357_0⟩ := Kd.at_int (Kd.R_reads' HO_9.out).2.2 x11_3 p357 q357
                 cases e357
                 replace p357 := eq_true p357
                 replace q357 := eq_true q357
                 refine start_ (n := 14) (S := fun w' => w'.cell? (ad355.add (x11_3).toNat) = some (.int .i64 (rd t349 x11_3)) ∧ w'.cell? (ad356.add (x11_3).toNat) = some (.int .i64 (rd t343 x11_3)) ∧ w'.cell? (ad357.add (x11_3).toNat) = some (.int .i64 (rd t346 x11_3))) (ds := []) PJ28_ (by kernel_rfl) rfl rfl ⟨hx355_0, hx356_0, hx357_0⟩ (fun hHeld => ?_); refine with_tabW entrepotlaw09_PlanJoins.tab12 entrepotlaw09_PlanJoins.bits12 (fun HT_ HW_ => ?_)
                 generalize wr.drew = w87 at HO_8 HO_9 HO_10 HO_328a HO_329a HO_343a BK327 BK328 BK342 HB hx355_0 hx356_0 hx357_0 hHeld ⊢
                 refine pure_ (i := 0) (N := some 73) (v := ?_) (a' := ?_) PJ29_ rfl rfl (any_of HT_.out (by kernel_rfl)) (fun _ _ _ h => h) (Or.inl ⟨by rfl, ?_⟩) ?_ ?_
                 rotate_left
                 ·intro w'
                  go_simp
                  with_reducible rfl
                 rotate_left
                 ·simp only [Act.put, s1_, s2_, s3_, i64_w, i32_w]
                  rfl
                 refine pure_ (i := 1) (N := some 74) (v := ?_) (a' := ?_) PJ30_ rfl rfl (any_of HT_.out (by kernel_rfl)) (fun _ _ _ h => h) (Or.inl ⟨by rfl, ?_⟩) ?_ ?_
                 rotate_left
                 ·intro w'
                  go_simp
                  with_reducible rfl
                 rotate_left
                 ·simp only [Act.put, s1_, s2_, s3_, i64_w, i32_w]
                  rfl
                 refine pure_ (i := 2) (N := some 75) (v := ?_) (a' := ?_) PJ31_ rfl rfl (any_of HT_.out (by kernel_rfl)) (fun _ _ _ h => h) (Or.inl ⟨by rfl, ?_⟩) ?_ ?_
                 rotate_left
                 ·intro w'
                  go_simp
                  with_reducible rfl
                 rotate_left
                 ·simp only [Act.put, s1_, s2_, s3_, i64_w, i32_w]
                  rfl
                 refine pure_ (i := 4) (N := some 77) (v := ?_) (a' := ?_) PJ32_ rfl rfl (any_of HT_.out (by kernel_rfl)) (fun _ _ _ h => h) (Or.inl ⟨by rfl, ?_⟩) ?_ ?_
                 rotate_left
                 ·intro w'
                  go_simp
                  with_reducible rfl
                 rotate_left
                 ·simp only [Act.put, s1_, s2_, s3_, i64_w, i32_w]
                  rfl
                 refine pure_ (i := 5) (N := some 78) (v := ?_) (a' := ?_) PJ33_ rfl rfl (any_of HT_.out (by kernel_rfl)) (fun _ _ _ h => h) (Or.inl ⟨by rfl, ?_⟩) ?_ ?_
                 rotate_left
                 ·intro w'
                  go_simp
                  with_reducible rfl
                 rotate_left
                 ·simp only [Act.put, s1_, s2_, s3_, i64_w, i32_w]
                  rfl
                 refine pure_ (i := 6) (N := some 79) (v := ?_) (a' := ?_) PJ34_ rfl rfl (any_of HT_.out (by kernel_rfl)) (fun _ _ _ h => h) (Or.inl ⟨by rfl, ?_⟩) ?_ ?_
                 rotate_left
                 ·intro w'
                  go_simp
                  with_reducible rfl
                 rotate_left
                 ·simp only [Act.put, s1_, s2_, s3_, i64_w, i32_w]
                  rfl
                 refine pure_ (i := 8) (N := some 81) (v := ?_) (a' := ?_) PJ35_ rfl rfl (any_of HT_.out (by kernel_rfl)) (fun _ _ _ h => h) (Or.inl ⟨by rfl, ?_⟩) ?_ ?_
                 rotate_left
                 ·intro w'
                  go_simp
                  with_reducible rfl
                 rotate_left
                 ·simp only [Act.put, s1_, s2_, s3_, i64_w, i32_w]
                  rfl
                 refine pure_ (i := 9) (N := some 82) (v := ?_) (a' := ?_) PJ36_ rfl rfl (any_of HT_.out (by kernel_rfl)) (fun _ _ _ h => h) (Or.inl ⟨by rfl, ?_⟩) ?_ ?_
                 rotate_left
                 ·intro w'
                  go_simp
                  with_reducible rfl
                 rotate_left
                 ·simp only [Act.put, s1_, s2_, s3_, i64_w, i32_w]
                  rfl
                 refine pure_ (i := 10) (N := some 83) (v := ?_) (a' := ?_) PJ37_ rfl rfl (any_of HT_.out (by kernel_rfl)) (fun _ _ _ h => h) (Or.inl ⟨by rfl, ?_⟩) ?_ ?_
                 rotate_left
                 ·intro w'
                  go_simp
                  with_reducible rfl
                 rotate_left
                 ·simp only [Act.put, s1_, s2_, s3_, i64_w, i32_w]
                  rfl
                 refine take_ (i := 3) (N := some 76) (v := ?_) (a' := ?_) PJ38_ rfl rfl (take_ofW HT_.out HW_.out (by kernel_rfl)) (fun _ _ _ h => h) (Or.inl ⟨by rfl, ?_⟩) hHeld ?_ ?_
                 rotate_left
                 ·rintro w' ⟨s0, s1, s2⟩
                  go_simp
                  with_reducible rfl
                 rotate_left
                 ·simp only [Act.put, s1_, s2_, s3_, i64_w, i32_w]
                  rfl
                 refine take_ (i := 7) (N := some 80) (v := ?_) (a' := ?_) PJ39_ rfl rfl (take_ofW HT_.out HW_.out (by kernel_rfl)) (fun _ _ _ h => h) (Or.inl ⟨by rfl, ?_⟩) hHeld ?_ ?_
                 rotate_left
                 ·rintro w' ⟨s0, s1, s2⟩
                  go_simp
                  with_reducible rfl
                 rotate_left
                 ·simp only [Act.put, s1_, s2_, s3_, i64_w, i32_w]
                  rfl
                 refine take_ (i := 11) (N := some 84) (v := ?_) (a' := ?_) PJ40_ rfl rfl (take_ofW HT_.out HW_.out (by kernel_rfl)) (fun _ _ _ h => h) (Or.inl ⟨by rfl, ?_⟩) hHeld ?_ ?_
                 rotate_left
                 ·rintro w' ⟨s0, s1, s2⟩
                  go_simp
                  with_reducible rfl
                 rotate_left
                 ·simp only [Act.put, s1_, s2_, s3_, i64_w, i32_w]
                  rfl
                 refine pure_ (i := 12) (N := some 85) (v := ?_) (a' := ?_) PJ41_ rfl rfl (any_of HT_.out (by kernel_rfl)) (fun _ _ _ h => h) (Or.inl ⟨by rfl, ?_⟩) ?_ ?_
                 rotate_left
                 ·intro w'
                  go_simp
                  with_reducible rfl
                 rotate_left
                 ·simp only [Act.put, s1_, s2_, s3_, i64_w, i32_w]
                  rfl
                 refine pure_ (i := 13) (N := some 86) (v := ?_) (a' := ?_) PJ42_ rfl rfl (any_of HT_.out (by kernel_rfl)) (fun _ _ _ h => h) (Or.inl ⟨by rfl, ?_⟩) ?_ ?_
                 rotate_left
                 ·intro w'
                  go_simp
                  with_reducible rfl
                 rotate_left
                 ·simp only [Act.put, s1_, s2_, s3_, i64_w, i32_w]
                  rfl
                 refine done_ (done_of HT_.out (by kernel_rfl)) ?_
                 try go_wp2
                 go_ret
                 exact ⟨by first | rfl | (simp [errW_none, errW_some] <;> rfl) | (simp [*, errW_none, errW_some] <;> rfl), by repeat (first | (with_reducible first | exact HB.out | apply below_alloc | apply pw_below_drewN | apply below_drew1 | refine below_set ?_ GE327.out | refine below_set ?_ GE328.out | refine below_set ?_ GE342.out) | exact HB.out)⟩
               ·rw [if_neg c81] at H
                exact absurd H (by simp)
              ·rw [if_neg c80] at H
               exact absurd H (by simp)
             ·rw [if_neg c79] at H
              exact absurd H (by simp)
            ·rw [if_neg c78] at H
             exact absurd H (by simp)
           ·rw [if_neg c77] at H
            have c77b0 : decide (x11_3 < 30) = false := decide_eq_false c77
            clear c77
            replace H := Option.bind_eq_some_iff.mp H
            obtain ⟨⟨t358, t359, t360⟩, A910, H⟩ := H
            replace H : ((plan_Find.f l1_0 a2).bind fun bt361 => ((plan_Find.f y339 a2).bind fun bt364 => (if t360 = true then (if bt364.2.2 = true then (if bt364.1 = t358 then (some (bt364.2.1 == t359)) else (some false)) else (some false)) else (if (bt364.2.2 == bt361.2.2) = true then (if bt364.2.1 = bt361.2.1 then (if bt361.2.2 = true then (some (bt364.1 == (wrap64 (bt361.1 + (l0_0.length : Int))))) else (if bt364.1 = 0 then (some true) else (some false))) else (some false)) else (some false))))) = some r := H
            have A91 := Am A910
            clear A910
            replace H := Option.bind_eq_some_iff.mp H
            obtain ⟨⟨t361, t362, t363⟩, A920, H⟩ := H
            replace H : ((plan_Find.f y339 a2).bind fun bt364 => (if t360 = true then (if bt364.2.2 = true then (if bt364.1 = t358 then (some (bt364.2.1 == t359)) else (some false)) else (some false)) else (if (bt364.2.2 == t363) = true then (if bt364.2.1 = t362 then (if t363 = true then (some (bt364.1 == (wrap64 (t361 + (l0_0.length : Int))))) else (if bt364.1 = 0 then (some true) else (some false))) else (some false)) else (some false)))) = some r := H
            have A92 := Am A920
            clear A920
            replace H := Option.bind_eq_some_iff.mp H
            obtain ⟨⟨t364, t365, t366⟩, A930, H⟩ := H
            replace H : (if t360 = true then (if t366 = true then (if t364 = t358 then (some (t365 == t359)) else (some false)) else (some false)) else (if (t366 == t363) = true then (if t365 = t362 then (if t363 = true then (some (t364 == (wrap64 (t361 + (l0_0.length : Int))))) else (if t364 = 0 then (some true) else (some false))) else (some false)) else (some false))) = some r := H
            have A93 := Am A930
            clear A930
            by_cases c94 : t360 = true
            ·subst c94
             have H1 : (if t366 = true then (if t364 = t358 then (some (t365 == t359)) else (some false)) else (some false)) = some r := by rw [if_pos rfl] at H; exact H
             clear H
             have H := H1
             clear H1
             by_cases c95 : t366 = true
             ·subst c95
              have H1 : (if t364 = t358 then (some (t365 == t359)) else (some false)) = some r := by rw [if_pos rfl] at H; exact H
              clear H
              have H := H1
              clear H1
              by_cases c96 : t364 = t358
              ·rw [if_pos c96] at H
               have c96b0 : (t364 == t358) = true := beq_iff_eq.mpr c96
               have c96b1 : (t364 != t358) = false := bne_eq_false_iff_eq.mpr c96
               clear c96
               obtain rfl := Option.some.inj H
               have hnb97 := NB327_328.out
               have hnc97 := NB328_327.out
               have hnb98 := NB327_342.out
               have hnc98 := NB342_327.out
               obtain ⟨hcz99_0, hfz99_0⟩ := blk1_ BK327.out
               go_wp2_with (first | ((with_reducible refine gate_callee (f := 10) rfl ?_); refine goesL_ (some 90) rfl rfl Try.func10 (by kernel_rfl) rfl #[.agg #[.slice A0_0 l0_0.length c0_0], .int .i64 a2] rfl (by (try simp only [List.map_toArray, List.map_cons, List.map_nil]); first | done | rfl | (simp only [List.length_drop, List.length_take]; rfl)) ?_; (with_reducible refine (plan_Find.calls _ _ l0_0 a2 t358 t359 true _ ?side1 ?side2 A91.out).mono ?_); (case side1 => repeat (first | exact (Kd.V_reads' HO_328a.out).2.2 | (with_reducible refine Kd.C_alloc ?_ _) | (with_reducible refine Kd.C_drewN ?_ _) | (with_reducible refine Kd.C_drew ?_))); (case side2 => exact (Kd.V_reads' HO_328a.out).2.1); rintro e w100 ⟨rfl, hb⟩; refine ⟨_, rfl, ?_⟩; have n0_ := Am (Kd.R_below (by (with_reducible repeat (first | apply Kd.R_alloc | apply Kd.R_drewN | apply Kd.R_drew)); exact HO_8.out) hb); have n1_ := Am (Kd.R_below (by (with_reducible repeat (first | apply Kd.R_alloc | apply Kd.R_drewN | apply Kd.R_drew)); exact HO_9.out) hb); have n2_ := Am (Kd.R_below (by (with_reducible repeat (first | apply Kd.R_alloc | apply Kd.R_drewN | apply Kd.R_drew)); exact HO_10.out) hb); have n3_ := Am (Kd.V_below (by (with_reducible repeat (first | apply Kd.V_alloc | apply Kd.V_drewN | apply Kd.V_drew)); exact HO_328a.out) hb); have n4_ := Am (Kd.V_below (by (with_reducible repeat (first | apply Kd.V_alloc | apply Kd.V_drewN | apply Kd.V_drew)); exact HO_329a.out) hb); have n5_ := Am (Kd.N_below (by (with_reducible repeat (first | apply Kd.N_alloc | apply Kd.N_drewN | apply Kd.N_drew)); exact HO_343a.out) hb); have n6_ := Am (blk_below (g := gb327) (o := .cells #[.slice A0_0 l0_0.length c0_0] 24 (0, 0)) (by (with_reducible repeat (first | refine blk_drewN ?_ _ | refine blk_drew ?_ | refine blk_alloc ?_ _)); exact BK327.out) hb); have n7_ := Am (blk_below (g := gb328) (o := .cells #[.slice A1_0 l1_0.length c1_0] 24 (0, 0)) (by (with_reducible repeat (first | refine blk_drewN ?_ _ | refine blk_drew ?_ | refine blk_alloc ?_ _)); exact BK328.out) hb); have n8_ := Am (blk_below (g := gb342) (o := .cells #[.slice Ao43 y339.length co43] 24 (0, 0)) (by (with_reducible repeat (first | refine blk_drewN ?_ _ | refine blk_drew ?_ | refine blk_alloc ?_ _)); exact BK342.out) hb); have n9_ := Am (below_step (by repeat (first | (with_reducible first | exact HB.out | apply below_alloc | apply pw_below_drewN | apply below_drew1 | refine below_set ?_ GE327.out | refine below_set ?_ GE328.out | refine below_set ?_ GE342.out) | exact HB.out)) hb); clear HO_8; clear HO_9; clear HO_10; clear HO_328a; clear HO_329a; clear HO_343a; clear BK327; clear BK328; clear BK342; clear HB; have HO_8 := n0_; have HO_9 := n1_; have HO_10 := n2_; have HO_328a := n3_; have HO_329a := n4_; have HO_343a := n5_; have BK327 := n6_; have BK328 := n7_; have BK342 := n8_; have HB := n9_; clear n0_ n1_ n2_ n3_ n4_ n5_ n6_ n7_ n8_ n9_; (try clear hb); (try clear hb2); (try clear hk); (try clear hi); have hnb101 := NB328_342.out; have hnc101 := NB342_328.out; obtain ⟨hcz102_0, hfz102_0⟩ := blk1_ BK328.out) | ((with_reducible refine gate_callee (f := 10) rfl ?_); refine goesL_ (some 97) rfl rfl Try.func10 (by kernel_rfl) rfl #[.agg #[.slice A1_0 l1_0.length c1_0], .int .i64 a2] rfl (by (try simp only [List.map_toArray, List.map_cons, List.map_nil]); first | done | rfl | (simp only [List.length_drop, List.length_take]; rfl)) ?_; (with_reducible refine (plan_Find.calls _ _ l1_0 a2 t361 t362 t363 _ ?side1 ?side2 A92.out).mono ?_); (case side1 => repeat (first | exact (Kd.V_reads' HO_329a.out).2.2 | (with_reducible refine Kd.C_alloc ?_ _) | (with_reducible refine Kd.C_drewN ?_ _) | (with_reducible refine Kd.C_drew ?_))); (case side2 => exact (Kd.V_reads' HO_329a.out).2.1); rintro e w103 ⟨rfl, hb⟩; refine ⟨_, rfl, ?_⟩; have n0_ := Am (Kd.R_below (by (with_reducible repeat (first | apply Kd.R_alloc | apply Kd.R_drewN | apply Kd.R_drew)); exact HO_8.out) hb); have n1_ := Am (Kd.R_below (by (with_reducible repeat (first | apply Kd.R_alloc | apply Kd.R_drewN | apply Kd.R_drew)); exact HO_9.out) hb); have n2_ := Am (Kd.R_below (by (with_reducible repeat (first | apply Kd.R_alloc | apply Kd.R_drewN | apply Kd.R_drew)); exact HO_10.out) hb); have n3_ := Am (Kd.V_below (by (with_reducible repeat (first | apply Kd.V_alloc | apply Kd.V_drewN | apply Kd.V_drew)); exact HO_328a.out) hb); have n4_ := Am (Kd.V_below (by (with_reducible repeat (first | apply Kd.V_alloc | apply Kd.V_drewN | apply Kd.V_drew)); exact HO_329a.out) hb); have n5_ := Am (Kd.N_below (by (with_reducible repeat (first | apply Kd.N_alloc | apply Kd.N_drewN | apply Kd.N_drew)); exact HO_343a.out) hb); have n6_ := Am (blk_below (g := gb327) (o := .cells #[.slice A0_0 l0_0.length c0_0] 24 (0, 0)) (by (with_reducible repeat (first | refine blk_drewN ?_ _ | refine blk_drew ?_ | refine blk_alloc ?_ _)); exact BK327.out) hb); have n7_ := Am (blk_below (g := gb328) (o := .cells #[.slice A1_0 l1_0.length c1_0] 24 (0, 0)) (by (with_reducible repeat (first | refine blk_drewN ?_ _ | refine blk_drew ?_ | refine blk_alloc ?_ _)); exact BK328.out) hb); have n8_ := Am (blk_below (g := gb342) (o := .cells #[.slice Ao43 y339.length co43] 24 (0, 0)) (by (with_reducible repeat (first | refine blk_drewN ?_ _ | refine blk_drew ?_ | refine blk_alloc ?_ _)); exact BK342.out) hb); have n9_ := Am (below_step (by repeat (first | (with_reducible first | exact HB.out | apply below_alloc | apply pw_below_drewN | apply below_drew1 | refine below_set ?_ GE327.out | refine below_set ?_ GE328.out | refine below_set ?_ GE342.out) | exact HB.out)) hb); clear HO_8; clear HO_9; clear HO_10; clear HO_328a; clear HO_329a; clear HO_343a; clear BK327; clear BK328; clear BK342; clear HB; have HO_8 := n0_; have HO_9 := n1_; have HO_10 := n2_; have HO_328a := n3_; have HO_329a := n4_; have HO_343a := n5_; have BK327 := n6_; have BK328 := n7_; have BK342 := n8_; have HB := n9_; clear n0_ n1_ n2_ n3_ n4_ n5_ n6_ n7_ n8_ n9_; (try clear hb); (try clear hb2); (try clear hk); (try clear hi); obtain ⟨hcz104_0, hfz104_0⟩ := blk1_ BK342.out) | ((with_reducible refine gate_callee (f := 10) rfl ?_); refine goesL_ (some 104) rfl rfl Try.func10 (by kernel_rfl) rfl #[.agg #[.slice Ao43 y339.length co43], .int .i64 a2] rfl (by (try simp only [List.map_toArray, List.map_cons, List.map_nil]); first | done | rfl | (simp only [List.length_drop, List.length_take]; rfl)) ?_; (with_reducible refine (plan_Find.calls _ _ y339 a2 t364 t365 true _ ?side1 ?side2 A93.out).mono ?_); (case side1 => repeat (first | exact (Kd.N_reads' HO_343a.out).2.2 | (with_reducible refine Kd.C_alloc ?_ _) | (with_reducible refine Kd.C_drewN ?_ _) | (with_reducible refine Kd.C_drew ?_))); (case side2 => exact (Kd.N_reads' HO_343a.out).2.1); rintro e w105 ⟨rfl, hb⟩; refine ⟨_, rfl, ?_⟩; have n0_ := Am (Kd.R_below (by (with_reducible repeat (first | apply Kd.R_alloc | apply Kd.R_drewN | apply Kd.R_drew)); exact HO_8.out) hb); have n1_ := Am (Kd.R_below (by (with_reducible repeat (first | apply Kd.R_alloc | apply Kd.R_drewN | apply Kd.R_drew)); exact HO_9.out) hb); have n2_ := Am (Kd.R_below (by (with_reducible repeat (first | apply Kd.R_alloc | apply Kd.R_drewN | apply Kd.R_drew)); exact HO_10.out) hb); have n3_ := Am (Kd.V_below (by (with_reducible repeat (first | apply Kd.V_alloc | apply Kd.V_drewN | apply Kd.V_drew)); exact HO_328a.out) hb); have n4_ := Am (Kd.V_below (by (with_reducible repeat (first | apply Kd.V_alloc | apply Kd.V_drewN | apply Kd.V_drew)); exact HO_329a.out) hb); have n5_ := Am (Kd.N_below (by (with_reducible repeat (first | apply Kd.N_alloc | apply Kd.N_drewN | apply Kd.N_drew)); exact HO_343a.out) hb); have n6_ := Am (blk_below (g := gb327) (o := .cells #[.slice A0_0 l0_0.length c0_0] 24 (0, 0)) (by (with_reducible repeat (first | refine blk_drewN ?_ _ | refine blk_drew ?_ | refine blk_alloc ?_ _)); exact BK327.out) hb); have n7_ := Am (blk_below (g := gb328) (o := .cells #[.slice A1_0 l1_0.length c1_0] 24 (0, 0)) (by (with_reducible repeat (first | refine blk_drewN ?_ _ | refine blk_drew ?_ | refine blk_alloc ?_ _)); exact BK328.out) hb); have n8_ := Am (blk_below (g := gb342) (o := .cells #[.slice Ao43 y339.length co43] 24 (0, 0)) (by (with_reducible repeat (first | refine blk_drewN ?_ _ | refine blk_drew ?_ | refine blk_alloc ?_ _)); exact BK342.out) hb); have n9_ := Am (below_step (by repeat (first | (with_reducible first | exact HB.out | apply below_alloc | apply pw_below_drewN | apply below_drew1 | refine below_set ?_ GE327.out | refine below_set ?_ GE328.out | refine below_set ?_ GE342.out) | exact HB.out)) hb); clear HO_8; clear HO_9; clear HO_10; clear HO_328a; clear HO_329a; clear HO_343a; clear BK327; clear BK328; clear BK342; clear HB; have HO_8 := n0_; have HO_9 := n1_; have HO_10 := n2_; have HO_328a := n3_; have HO_329a := n4_; have HO_343a := n5_; have BK327 := n6_; have BK328 := n7_; have BK342 := n8_; have HB := n9_; clear n0_ n1_ n2_ n3_ n4_ n5_ n6_ n7_ n8_ n9_; (try clear hb); (try clear hb2); (try clear hk); (try clear hi)))
               go_ret
               exact ⟨by first | rfl | (simp [errW_none, errW_some] <;> rfl) | (simp [*, errW_none, errW_some] <;> rfl), by repeat (first | (with_reducible first | exact HB.out | apply below_alloc | apply pw_below_drewN | apply below_drew1 | refine below_set ?_ GE327.out | refine below_set ?_ GE328.out | refine below_set ?_ GE342.out) | exact HB.out)⟩
              ·rw [if_neg c96] at H
               have c96b0 : (t364 == t358) = false := beq_eq_false_iff_ne.mpr c96
               have c96b1 : (t364 != t358) = true := bne_iff_ne.mpr c96
               obtain rfl := Option.some.inj H
               have hnb106 := NB327_328.out
               have hnc106 := NB328_327.out
               have hnb107 := NB327_342.out
               have hnc107 := NB342_327.out
               obtain ⟨hcz108_0, hfz108_0⟩ := blk1_ BK327.out
               go_wp2_with (first | ((with_reducible refine gate_callee (f := 10) rfl ?_); refine goesL_ (some 90) rfl rfl Try.func10 (by kernel_rfl) rfl #[.agg #[.slice A0_0 l0_0.length c0_0], .int .i64 a2] rfl (by (try simp only [List.map_toArray, List.map_cons, List.map_nil]); first | done | rfl | (simp only [List.length_drop, List.length_take]; rfl)) ?_; (with_reducible refine (plan_Find.calls _ _ l0_0 a2 t358 t359 true _ ?side1 ?side2 A91.out).mono ?_); (case side1 => repeat (first | exact (Kd.V_reads' HO_328a.out).2.2 | (with_reducible refine Kd.C_alloc ?_ _) | (with_reducible refine Kd.C_drewN ?_ _) | (with_reducible refine Kd.C_drew ?_))); (case side2 => exact (Kd.V_reads' HO_328a.out).2.1); rintro e w109 ⟨rfl, hb⟩; refine ⟨_, rfl, ?_⟩; have n0_ := Am (Kd.R_below (by (with_reducible repeat (first | apply Kd.R_alloc | apply Kd.R_drewN | apply Kd.R_drew)); exact HO_8.out) hb); have n1_ := Am (Kd.R_below (by (with_reducible repeat (first | apply Kd.R_alloc | apply Kd.R_drewN | apply Kd.R_drew)); exact HO_9.out) hb); have n2_ := Am (Kd.R_below (by (with_reducible repeat (first | apply Kd.R_alloc | apply Kd.R_drewN | apply Kd.R_drew)); exact HO_10.out) hb); have n3_ := Am (Kd.V_below (by (with_reducible repeat (first | apply Kd.V_alloc | apply Kd.V_drewN | apply Kd.V_drew)); exact HO_328a.out) hb); have n4_ := Am (Kd.V_below (by (with_reducible repeat (first | apply Kd.V_alloc | apply Kd.V_drewN | apply Kd.V_drew)); exact HO_329a.out) hb); have n5_ := Am (Kd.N_below (by (with_reducible repeat (first | apply Kd.N_alloc | apply Kd.N_drewN | apply Kd.N_drew)); exact HO_343a.out) hb); have n6_ := Am (blk_below (g := gb327) (o := .cells #[.slice A0_0 l0_0.length c0_0] 24 (0, 0)) (by (with_reducible repeat (first | refine blk_drewN ?_ _ | refine blk_drew ?_ | refine blk_alloc ?_ _)); exact BK327.out) hb); have n7_ := Am (blk_below (g := gb328) (o := .cells #[.slice A1_0 l1_0.length c1_0] 24 (0, 0)) (by (with_reducible repeat (first | refine blk_drewN ?_ _ | refine blk_drew ?_ | refine blk_alloc ?_ _)); exact BK328.out) hb); have n8_ := Am (blk_below (g := gb342) (o := .cells #[.slice Ao43 y339.length co43] 24 (0, 0)) (by (with_reducible repeat (first | refine blk_drewN ?_ _ | refine blk_drew ?_ | refine blk_alloc ?_ _)); exact BK342.out) hb); have n9_ := Am (below_step (by repeat (first | (with_reducible first | exact HB.out | apply below_alloc | apply pw_below_drewN | apply below_drew1 | refine below_set ?_ GE327.out | refine below_set ?_ GE328.out | refine below_set ?_ GE342.out) | exact HB.out)) hb); clear HO_8; clear HO_9; clear HO_10; clear HO_328a; clear HO_329a; clear HO_343a; clear BK327; clear BK328; clear BK342; clear HB; have HO_8 := n0_; have HO_9 := n1_; have HO_10 := n2_; have HO_328a := n3_; have HO_329a := n4_; have HO_343a := n5_; have BK327 := n6_; have BK328 := n7_; have BK342 := n8_; have HB := n9_; clear n0_ n1_ n2_ n3_ n4_ n5_ n6_ n7_ n8_ n9_; (try clear hb); (try clear hb2); (try clear hk); (try clear hi); have hnb110 := NB328_342.out; have hnc110 := NB342_328.out; obtain ⟨hcz111_0, hfz111_0⟩ := blk1_ BK328.out) | ((with_reducible refine gate_callee (f := 10) rfl ?_); refine goesL_ (some 97) rfl rfl Try.func10 (by kernel_rfl) rfl #[.agg #[.slice A1_0 l1_0.length c1_0], .int .i64 a2] rfl (by (try simp only [List.map_toArray, List.map_cons, List.map_nil]); first | done | rfl | (simp only [List.length_drop, List.length_take]; rfl)) ?_; (with_reducible refine (plan_Find.calls _ _ l1_0 a2 t361 t362 t363 _ ?side1 ?side2 A92.out).mono ?_); (case side1 => repeat (first | exact (Kd.V_reads' HO_329a.out).2.2 | (with_reducible refine Kd.C_alloc ?_ _) | (with_reducible refine Kd.C_drewN ?_ _) | (with_reducible refine Kd.C_drew ?_))); (case side2 => exact (Kd.V_reads' HO_329a.out).2.1); rintro e w112 ⟨rfl, hb⟩; refine ⟨_, rfl, ?_⟩; have n0_ := Am (Kd.R_below (by (with_reducible repeat (first | apply Kd.R_alloc | apply Kd.R_drewN | apply Kd.R_drew)); exact HO_8.out) hb); have n1_ := Am (Kd.R_below (by (with_reducible repeat (first | apply Kd.R_alloc | apply Kd.R_drewN | apply Kd.R_drew)); exact HO_9.out) hb); have n2_ := Am (Kd.R_below (by (with_reducible repeat (first | apply Kd.R_alloc | apply Kd.R_drewN | apply Kd.R_drew)); exact HO_10.out) hb); have n3_ := Am (Kd.V_below (by (with_reducible repeat (first | apply Kd.V_alloc | apply Kd.V_drewN | apply Kd.V_drew)); exact HO_328a.out) hb); have n4_ := Am (Kd.V_below (by (with_reducible repeat (first | apply Kd.V_alloc | apply Kd.V_drewN | apply Kd.V_drew)); exact HO_329a.out) hb); have n5_ := Am (Kd.N_below (by (with_reducible repeat (first | apply Kd.N_alloc | apply Kd.N_drewN | apply Kd.N_drew)); exact HO_343a.out) hb); have n6_ := Am (blk_below (g := gb327) (o := .cells #[.slice A0_0 l0_0.length c0_0] 24 (0, 0)) (by (with_reducible repeat (first | refine blk_drewN ?_ _ | refine blk_drew ?_ | refine blk_alloc ?_ _)); exact BK327.out) hb); have n7_ := Am (blk_below (g := gb328) (o := .cells #[.slice A1_0 l1_0.length c1_0] 24 (0, 0)) (by (with_reducible repeat (first | refine blk_drewN ?_ _ | refine blk_drew ?_ | refine blk_alloc ?_ _)); exact BK328.out) hb); have n8_ := Am (blk_below (g := gb342) (o := .cells #[.slice Ao43 y339.length co43] 24 (0, 0)) (by (with_reducible repeat (first | refine blk_drewN ?_ _ | refine blk_drew ?_ | refine blk_alloc ?_ _)); exact BK342.out) hb); have n9_ := Am (below_step (by repeat (first | (with_reducible first | exact HB.out | apply below_alloc | apply pw_below_drewN | apply below_drew1 | refine below_set ?_ GE327.out | refine below_set ?_ GE328.out | refine below_set ?_ GE342.out) | exact HB.out)) hb); clear HO_8; clear HO_9; clear HO_10; clear HO_328a; clear HO_329a; clear HO_343a; clear BK327; clear BK328; clear BK342; clear HB; have HO_8 := n0_; have HO_9 := n1_; have HO_10 := n2_; have HO_328a := n3_; have HO_329a := n4_; have HO_343a := n5_; have BK327 := n6_; have BK328 := n7_; have BK342 := n8_; have HB := n9_; clear n0_ n1_ n2_ n3_ n4_ n5_ n6_ n7_ n8_ n9_; (try clear hb); (try clear hb2); (try clear hk); (try clear hi); obtain ⟨hcz113_0, hfz113_0⟩ := blk1_ BK342.out) | ((with_reducible refine gate_callee (f := 10) rfl ?_); refine goesL_ (some 104) rfl rfl Try.func10 (by kernel_rfl) rfl #[.agg #[.slice Ao43 y339.length co43], .int .i64 a2] rfl (by (try simp only [List.map_toArray, List.map_cons, List.map_nil]); first | done | rfl | (simp only [List.length_drop, List.length_take]; rfl)) ?_; (with_reducible refine (plan_Find.calls _ _ y339 a2 t364 t365 true _ ?side1 ?side2 A93.out).mono ?_); (case side1 => repeat (first | exact (Kd.N_reads' HO_343a.out).2.2 | (with_reducible refine Kd.C_alloc ?_ _) | (with_reducible refine Kd.C_drewN ?_ _) | (with_reducible refine Kd.C_drew ?_))); (case side2 => exact (Kd.N_reads' HO_343a.out).2.1); rintro e w114 ⟨rfl, hb⟩; refine ⟨_, rfl, ?_⟩; have n0_ := Am (Kd.R_below (by (with_reducible repeat (first | apply Kd.R_alloc | apply Kd.R_drewN | apply Kd.R_drew)); exact HO_8.out) hb); have n1_ := Am (Kd.R_below (by (with_reducible repeat (first | apply Kd.R_alloc | apply Kd.R_drewN | apply Kd.R_drew)); exact HO_9.out) hb); have n2_ := Am (Kd.R_below (by (with_reducible repeat (first | apply Kd.R_alloc | apply Kd.R_drewN | apply Kd.R_drew)); exact HO_10.out) hb); have n3_ := Am (Kd.V_below (by (with_reducible repeat (first | apply Kd.V_alloc | apply Kd.V_drewN | apply Kd.V_drew)); exact HO_328a.out) hb); have n4_ := Am (Kd.V_below (by (with_reducible repeat (first | apply Kd.V_alloc | apply Kd.V_drewN | apply Kd.V_drew)); exact HO_329a.out) hb); have n5_ := Am (Kd.N_below (by (with_reducible repeat (first | apply Kd.N_alloc | apply Kd.N_drewN | apply Kd.N_drew)); exact HO_343a.out) hb); have n6_ := Am (blk_below (g := gb327) (o := .cells #[.slice A0_0 l0_0.length c0_0] 24 (0, 0)) (by (with_reducible repeat (first | refine blk_drewN ?_ _ | refine blk_drew ?_ | refine blk_alloc ?_ _)); exact BK327.out) hb); have n7_ := Am (blk_below (g := gb328) (o := .cells #[.slice A1_0 l1_0.length c1_0] 24 (0, 0)) (by (with_reducible repeat (first | refine blk_drewN ?_ _ | refine blk_drew ?_ | refine blk_alloc ?_ _)); exact BK328.out) hb); have n8_ := Am (blk_below (g := gb342) (o := .cells #[.slice Ao43 y339.length co43] 24 (0, 0)) (by (with_reducible repeat (first | refine blk_drewN ?_ _ | refine blk_drew ?_ | refine blk_alloc ?_ _)); exact BK342.out) hb); have n9_ := Am (below_step (by repeat (first | (with_reducible first | exact HB.out | apply below_alloc | apply pw_below_drewN | apply below_drew1 | refine below_set ?_ GE327.out | refine below_set ?_ GE328.out | refine below_set ?_ GE342.out) | exact HB.out)) hb); clear HO_8; clear HO_9; clear HO_10; clear HO_328a; clear HO_329a; clear HO_343a; clear BK327; clear BK328; clear BK342; clear HB; have HO_8 := n0_; have HO_9 := n1_; have HO_10 := n2_; have HO_328a := n3_; have HO_329a := n4_; have HO_343a := n5_; have BK327 := n6_; have BK328 := n7_; have BK342 := n8_; have HB := n9_; clear n0_ n1_ n2_ n3_ n4_ n5_ n6_ n7_ n8_ n9_; (try clear hb); (try clear hb2); (try clear hk); (try clear hi)))
               go_ret
               exact ⟨by first | rfl | (simp [errW_none, errW_some] <;> rfl) | (simp [*, errW_none, errW_some] <;> rfl), by repeat (first | (with_reducible first | exact HB.out | apply below_alloc | apply pw_below_drewN | apply below_drew1 | refine below_set ?_ GE327.out | refine below_set ?_ GE328.out | refine below_set ?_ GE342.out) | exact HB.out)⟩
             ·replace c95 := Bool.eq_false_iff.mpr c95
              subst c95
              have H1 : (some false) = some r := by rw [if_neg (show ¬ (false = true) by decide)] at H; exact H
              clear H
              have H := H1
              clear H1
              obtain rfl := Option.some.inj H
              have hnb115 := NB327_328.out
              have hnc115 := NB328_327.out
              have hnb116 := NB327_342.out
              have hnc116 := NB342_327.out
              obtain ⟨hcz117_0, hfz117_0⟩ := blk1_ BK327.out
              go_wp2_with (first | ((with_reducible refine gate_callee (f := 10) rfl ?_); refine goesL_ (some 90) rfl rfl Try.func10 (by kernel_rfl) rfl #[.agg #[.slice A0_0 l0_0.length c0_0], .int .i64 a2] rfl (by (try simp only [List.map_toArray, List.map_cons, List.map_nil]); first | done | rfl | (simp only [List.length_drop, List.length_take]; rfl)) ?_; (with_reducible refine (plan_Find.calls _ _ l0_0 a2 t358 t359 true _ ?side1 ?side2 A91.out).mono ?_); (case side1 => repeat (first | exact (Kd.V_reads' HO_328a.out).2.2 | (with_reducible refine Kd.C_alloc ?_ _) | (with_reducible refine Kd.C_drewN ?_ _) | (with_reducible refine Kd.C_drew ?_))); (case side2 => exact (Kd.V_reads' HO_328a.out).2.1); rintro e w118 ⟨rfl, hb⟩; refine ⟨_, rfl, ?_⟩; have n0_ := Am (Kd.R_below (by (with_reducible repeat (first | apply Kd.R_alloc | apply Kd.R_drewN | apply Kd.R_drew)); exact HO_8.out) hb); have n1_ := Am (Kd.R_below (by (with_reducible repeat (first | apply Kd.R_alloc | apply Kd.R_drewN | apply Kd.R_drew)); exact HO_9.out) hb); have n2_ := Am (Kd.R_below (by (with_reducible repeat (first | apply Kd.R_alloc | apply Kd.R_drewN | apply Kd.R_drew)); exact HO_10.out) hb); have n3_ := Am (Kd.V_below (by (with_reducible repeat (first | apply Kd.V_alloc | apply Kd.V_drewN | apply Kd.V_drew)); exact HO_328a.out) hb); have n4_ := Am (Kd.V_below (by (with_reducible repeat (first | apply Kd.V_alloc | apply Kd.V_drewN | apply Kd.V_drew)); exact HO_329a.out) hb); have n5_ := Am (Kd.N_below (by (with_reducible repeat (first | apply Kd.N_alloc | apply Kd.N_drewN | apply Kd.N_drew)); exact HO_343a.out) hb); have n6_ := Am (blk_below (g := gb327) (o := .cells #[.slice A0_0 l0_0.length c0_0] 24 (0, 0)) (by (with_reducible repeat (first | refine blk_drewN ?_ _ | refine blk_drew ?_ | refine blk_alloc ?_ _)); exact BK327.out) hb); have n7_ := Am (blk_below (g := gb328) (o := .cells #[.slice A1_0 l1_0.length c1_0] 24 (0, 0)) (by (with_reducible repeat (first | refine blk_drewN ?_ _ | refine blk_drew ?_ | refine blk_alloc ?_ _)); exact BK328.out) hb); have n8_ := Am (blk_below (g := gb342) (o := .cells #[.slice Ao43 y339.length co43] 24 (0, 0)) (by (with_reducible repeat (first | refine blk_drewN ?_ _ | refine blk_drew ?_ | refine blk_alloc ?_ _)); exact BK342.out) hb); have n9_ := Am (below_step (by repeat (first | (with_reducible first | exact HB.out | apply below_alloc | apply pw_below_drewN | apply below_drew1 | refine below_set ?_ GE327.out | refine below_set ?_ GE328.out | refine below_set ?_ GE342.out) | exact HB.out)) hb); clear HO_8; clear HO_9; clear HO_10; clear HO_328a; clear HO_329a; clear HO_343a; clear BK327; clear BK328; clear BK342; clear HB; have HO_8 := n0_; have HO_9 := n1_; have HO_10 := n2_; have HO_328a := n3_; have HO_329a := n4_; have HO_343a := n5_; have BK327 := n6_; have BK328 := n7_; have BK342 := n8_; have HB := n9_; clear n0_ n1_ n2_ n3_ n4_ n5_ n6_ n7_ n8_ n9_; (try clear hb); (try clear hb2); (try clear hk); (try clear hi); have hnb119 := NB328_342.out; have hnc119 := NB342_328.out; obtain ⟨hcz120_0, hfz120_0⟩ := blk1_ BK328.out) | ((with_reducible refine gate_callee (f := 10) rfl ?_); refine goesL_ (some 97) rfl rfl Try.func10 (by kernel_rfl) rfl #[.agg #[.slice A1_0 l1_0.length c1_0], .int .i64 a2] rfl (by (try simp only [List.map_toArray, List.map_cons, List.map_nil]); first | done | rfl | (simp only [List.length_drop, List.length_take]; rfl)) ?_; (with_reducible refine (plan_Find.calls _ _ l1_0 a2 t361 t362 t363 _ ?side1 ?side2 A92.out).mono ?_); (case side1 => repeat (first | exact (Kd.V_reads' HO_329a.out).2.2 | (with_reducible refine Kd.C_alloc ?_ _) | (with_reducible refine Kd.C_drewN ?_ _) | (with_reducible refine Kd.C_drew ?_))); (case side2 => exact (Kd.V_reads' HO_329a.out).2.1); rintro e w121 ⟨rfl, hb⟩; refine ⟨_, rfl, ?_⟩; have n0_ := Am (Kd.R_below (by (with_reducible repeat (first | apply Kd.R_alloc | apply Kd.R_drewN | apply Kd.R_drew)); exact HO_8.out) hb); have n1_ := Am (Kd.R_below (by (with_reducible repeat (first | apply Kd.R_alloc | apply Kd.R_drewN | apply Kd.R_drew)); exact HO_9.out) hb); have n2_ := Am (Kd.R_below (by (with_reducible repeat (first | apply Kd.R_alloc | apply Kd.R_drewN | apply Kd.R_drew)); exact HO_10.out) hb); have n3_ := Am (Kd.V_below (by (with_reducible repeat (first | apply Kd.V_alloc | apply Kd.V_drewN | apply Kd.V_drew)); exact HO_328a.out) hb); have n4_ := Am (Kd.V_below (by (with_reducible repeat (first | apply Kd.V_alloc | apply Kd.V_drewN | apply Kd.V_drew)); exact HO_329a.out) hb); have n5_ := Am (Kd.N_below (by (with_reducible repeat (first | apply Kd.N_alloc | apply Kd.N_drewN | apply Kd.N_drew)); exact HO_343a.out) hb); have n6_ := Am (blk_below (g := gb327) (o := .cells #[.slice A0_0 l0_0.length c0_0] 24 (0, 0)) (by (with_reducible repeat (first | refine blk_drewN ?_ _ | refine blk_drew ?_ | refine blk_alloc ?_ _)); exact BK327.out) hb); have n7_ := Am (blk_below (g := gb328) (o := .cells #[.slice A1_0 l1_0.length c1_0] 24 (0, 0)) (by (with_reducible repeat (first | refine blk_drewN ?_ _ | refine blk_drew ?_ | refine blk_alloc ?_ _)); exact BK328.out) hb); have n8_ := Am (blk_below (g := gb342) (o := .cells #[.slice Ao43 y339.length co43] 24 (0, 0)) (by (with_reducible repeat (first | refine blk_drewN ?_ _ | refine blk_drew ?_ | refine blk_alloc ?_ _)); exact BK342.out) hb); have n9_ := Am (below_step (by repeat (first | (with_reducible first | exact HB.out | apply below_alloc | apply pw_below_drewN | apply below_drew1 | refine below_set ?_ GE327.out | refine below_set ?_ GE328.out | refine below_set ?_ GE342.out) | exact HB.out)) hb); clear HO_8; clear HO_9; clear HO_10; clear HO_328a; clear HO_329a; clear HO_343a; clear BK327; clear BK328; clear BK342; clear HB; have HO_8 := n0_; have HO_9 := n1_; have HO_10 := n2_; have HO_328a := n3_; have HO_329a := n4_; have HO_343a := n5_; have BK327 := n6_; have BK328 := n7_; have BK342 := n8_; have HB := n9_; clear n0_ n1_ n2_ n3_ n4_ n5_ n6_ n7_ n8_ n9_; (try clear hb); (try clear hb2); (try clear hk); (try clear hi); obtain ⟨hcz122_0, hfz122_0⟩ := blk1_ BK342.out) | ((with_reducible refine gate_callee (f := 10) rfl ?_); refine goesL_ (some 104) rfl rfl Try.func10 (by kernel_rfl) rfl #[.agg #[.slice Ao43 y339.length co43], .int .i64 a2] rfl (by (try simp only [List.map_toArray, List.map_cons, List.map_nil]); first | done | rfl | (simp only [List.length_drop, List.length_take]; rfl)) ?_; (with_reducible refine (plan_Find.calls _ _ y339 a2 t364 t365 false _ ?side1 ?side2 A93.out).mono ?_); (case side1 => repeat (first | exact (Kd.N_reads' HO_343a.out).2.2 | (with_reducible refine Kd.C_alloc ?_ _) | (with_reducible refine Kd.C_drewN ?_ _) | (with_reducible refine Kd.C_drew ?_))); (case side2 => exact (Kd.N_reads' HO_343a.out).2.1); rintro e w123 ⟨rfl, hb⟩; refine ⟨_, rfl, ?_⟩; have n0_ := Am (Kd.R_below (by (with_reducible repeat (first | apply Kd.R_alloc | apply Kd.R_drewN | apply Kd.R_drew)); exact HO_8.out) hb); have n1_ := Am (Kd.R_below (by (with_reducible repeat (first | apply Kd.R_alloc | apply Kd.R_drewN | apply Kd.R_drew)); exact HO_9.out) hb); have n2_ := Am (Kd.R_below (by (with_reducible repeat (first | apply Kd.R_alloc | apply Kd.R_drewN | apply Kd.R_drew)); exact HO_10.out) hb); have n3_ := Am (Kd.V_below (by (with_reducible repeat (first | apply Kd.V_alloc | apply Kd.V_drewN | apply Kd.V_drew)); exact HO_328a.out) hb); have n4_ := Am (Kd.V_below (by (with_reducible repeat (first | apply Kd.V_alloc | apply Kd.V_drewN | apply Kd.V_drew)); exact HO_329a.out) hb); have n5_ := Am (Kd.N_below (by (with_reducible repeat (first | apply Kd.N_alloc | apply Kd.N_drewN | apply Kd.N_drew)); exact HO_343a.out) hb); have n6_ := Am (blk_below (g := gb327) (o := .cells #[.slice A0_0 l0_0.length c0_0] 24 (0, 0)) (by (with_reducible repeat (first | refine blk_drewN ?_ _ | refine blk_drew ?_ | refine blk_alloc ?_ _)); exact BK327.out) hb); have n7_ := Am (blk_below (g := gb328) (o := .cells #[.slice A1_0 l1_0.length c1_0] 24 (0, 0)) (by (with_reducible repeat (first | refine blk_drewN ?_ _ | refine blk_drew ?_ | refine blk_alloc ?_ _)); exact BK328.out) hb); have n8_ := Am (blk_below (g := gb342) (o := .cells #[.slice Ao43 y339.length co43] 24 (0, 0)) (by (with_reducible repeat (first | refine blk_drewN ?_ _ | refine blk_drew ?_ | refine blk_alloc ?_ _)); exact BK342.out) hb); have n9_ := Am (below_step (by repeat (first | (with_reducible first | exact HB.out | apply below_alloc | apply pw_below_drewN | apply below_drew1 | refine below_set ?_ GE327.out | refine below_set ?_ GE328.out | refine below_set ?_ GE342.out) | exact HB.out)) hb); clear HO_8; clear HO_9; clear HO_10; clear HO_328a; clear HO_329a; clear HO_343a; clear BK327; clear BK328; clear BK342; clear HB; have HO_8 := n0_; have HO_9 := n1_; have HO_10 := n2_; have HO_328a := n3_; have HO_329a := n4_; have HO_343a := n5_; have BK327 := n6_; have BK328 := n7_; have BK342 := n8_; have HB := n9_; clear n0_ n1_ n2_ n3_ n4_ n5_ n6_ n7_ n8_ n9_; (try clear hb); (try clear hb2); (try clear hk); (try clear hi)))
              go_ret
              exact ⟨by first | rfl | (simp [errW_none, errW_some] <;> rfl) | (simp [*, errW_none, errW_some] <;> rfl), by repeat (first | (with_reducible first | exact HB.out | apply below_alloc | apply pw_below_drewN | apply below_drew1 | refine below_set ?_ GE327.out | refine below_set ?_ GE328.out | refine below_set ?_ GE342.out) | exact HB.out)⟩
            ·replace c94 := Bool.eq_false_iff.mpr c94
             subst c94
             have H1 : (if (t366 == t363) = true then (if t365 = t362 then (if t363 = true then (some (t364 == (wrap64 (t361 + (l0_0.length : Int))))) else (if t364 = 0 then (some true) else (some false))) else (some false)) else (some false)) = some r := by rw [if_neg (show ¬ (false = true) by decide)] at H; exact H
             clear H
             have H := H1
             clear H1
             by_cases c124 : (t366 == t363) = true
             ·rw [if_pos c124] at H
              have c124b0 : (t366 == t363) = true := c124
              (try (have c124b1 : decide (t366 = t363) = true := by simpa using c124))
              (try (have c124b2 : (t366 == t363) = true := by simpa using c124))
              clear c124
              by_cases c125 : t365 = t362
              ·rw [if_pos c125] at H
               have c125b0 : (t365 == t362) = true := beq_iff_eq.mpr c125
               have c125b1 : (t365 != t362) = false := bne_eq_false_iff_eq.mpr c125
               clear c125
               by_cases c126 : t363 = true
               ·subst c126
                have H1 : (some (t364 == (wrap64 (t361 + (l0_0.length : Int))))) = some r := by rw [if_pos rfl] at H; exact H
                clear H
                have H := H1
                clear H1
                obtain rfl := Option.some.inj H
                have hnb127 := NB327_328.out
                have hnc127 := NB328_327.out
                have hnb128 := NB327_342.out
                have hnc128 := NB342_327.out
                obtain ⟨hcz129_0, hfz129_0⟩ := blk1_ BK327.out
                go_wp2_with (first | ((with_reducible refine gate_callee (f := 10) rfl ?_); refine goesL_ (some 90) rfl rfl Try.func10 (by kernel_rfl) rfl #[.agg #[.slice A0_0 l0_0.length c0_0], .int .i64 a2] rfl (by (try simp only [List.map_toArray, List.map_cons, List.map_nil]); first | done | rfl | (simp only [List.length_drop, List.length_take]; rfl)) ?_; (with_reducible refine (plan_Find.calls _ _ l0_0 a2 t358 t359 false _ ?side1 ?side2 A91.out).mono ?_); (case side1 => repeat (first | exact (Kd.V_reads' HO_328a.out).2.2 | (with_reducible refine Kd.C_alloc ?_ _) | (with_reducible refine Kd.C_drewN ?_ _) | (with_reducible refine Kd.C_drew ?_))); (case side2 => exact (Kd.V_reads' HO_328a.out).2.1); rintro e w130 ⟨rfl, hb⟩; refine ⟨_, rfl, ?_⟩; have n0_ := Am (Kd.R_below (by (with_reducible repeat (first | apply Kd.R_alloc | apply Kd.R_drewN | apply Kd.R_drew)); exact HO_8.out) hb); have n1_ := Am (Kd.R_below (by (with_reducible repeat (first | apply Kd.R_alloc | apply Kd.R_drewN | apply Kd.R_drew)); exact HO_9.out) hb); have n2_ := Am (Kd.R_below (by (with_reducible repeat (first | apply Kd.R_alloc | apply Kd.R_drewN | apply Kd.R_drew)); exact HO_10.out) hb); have n3_ := Am (Kd.V_below (by (with_reducible repeat (first | apply Kd.V_alloc | apply Kd.V_drewN | apply Kd.V_drew)); exact HO_328a.out) hb); have n4_ := Am (Kd.V_below (by (with_reducible repeat (first | apply Kd.V_alloc | apply Kd.V_drewN | apply Kd.V_drew)); exact HO_329a.out) hb); have n5_ := Am (Kd.N_below (by (with_reducible repeat (first | apply Kd.N_alloc | apply Kd.N_drewN | apply Kd.N_drew)); exact HO_343a.out) hb); have n6_ := Am (blk_below (g := gb327) (o := .cells #[.slice A0_0 l0_0.length c0_0] 24 (0, 0)) (by (with_reducible repeat (first | refine blk_drewN ?_ _ | refine blk_drew ?_ | refine blk_alloc ?_ _)); exact BK327.out) hb); have n7_ := Am (blk_below (g := gb328) (o := .cells #[.slice A1_0 l1_0.length c1_0] 24 (0, 0)) (by (with_reducible repeat (first | refine blk_drewN ?_ _ | refine blk_drew ?_ | refine blk_alloc ?_ _)); exact BK328.out) hb); have n8_ := Am (blk_below (g := gb342) (o := .cells #[.slice Ao43 y339.length co43] 24 (0, 0)) (by (with_reducible repeat (first | refine blk_drewN ?_ _ | refine blk_drew ?_ | refine blk_alloc ?_ _)); exact BK342.out) hb); have n9_ := Am (below_step (by repeat (first | (with_reducible first | exact HB.out | apply below_alloc | apply pw_below_drewN | apply below_drew1 | refine below_set ?_ GE327.out | refine below_set ?_ GE328.out | refine below_set ?_ GE342.out) | exact HB.out)) hb); clear HO_8; clear HO_9; clear HO_10; clear HO_328a; clear HO_329a; clear HO_343a; clear BK327; clear BK328; clear BK342; clear HB; have HO_8 := n0_; have HO_9 := n1_; have HO_10 := n2_; have HO_328a := n3_; have HO_329a := n4_; have HO_343a := n5_; have BK327 := n6_; have BK328 := n7_; have BK342 := n8_; have HB := n9_; clear n0_ n1_ n2_ n3_ n4_ n5_ n6_ n7_ n8_ n9_; (try clear hb); (try clear hb2); (try clear hk); (try clear hi); have hnb131 := NB328_342.out; have hnc131 := NB342_328.out; obtain ⟨hcz132_0, hfz132_0⟩ := blk1_ BK328.out) | ((with_reducible refine gate_callee (f := 10) rfl ?_); refine goesL_ (some 97) rfl rfl Try.func10 (by kernel_rfl) rfl #[.agg #[.slice A1_0 l1_0.length c1_0], .int .i64 a2] rfl (by (try simp only [List.map_toArray, List.map_cons, List.map_nil]); first | done | rfl | (simp only [List.length_drop, List.length_take]; rfl)) ?_; (with_reducible refine (plan_Find.calls _ _ l1_0 a2 t361 t362 true _ ?side1 ?side2 A92.out).mono ?_); (case side1 => repeat (first | exact (Kd.V_reads' HO_329a.out).2.2 | (with_reducible refine Kd.C_alloc ?_ _) | (with_reducible refine Kd.C_drewN ?_ _) | (with_reducible refine Kd.C_drew ?_))); (case side2 => exact (Kd.V_reads' HO_329a.out).2.1); rintro e w133 ⟨rfl, hb⟩; refine ⟨_, rfl, ?_⟩; have n0_ := Am (Kd.R_below (by (with_reducible repeat (first | apply Kd.R_alloc | apply Kd.R_drewN | apply Kd.R_drew)); exact HO_8.out) hb); have n1_ := Am (Kd.R_below (by (with_reducible repeat (first | apply Kd.R_alloc | apply Kd.R_drewN | apply Kd.R_drew)); exact HO_9.out) hb); have n2_ := Am (Kd.R_below (by (with_reducible repeat (first | apply Kd.R_alloc | apply Kd.R_drewN | apply Kd.R_drew)); exact HO_10.out) hb); have n3_ := Am (Kd.V_below (by (with_reducible repeat (first | apply Kd.V_alloc | apply Kd.V_drewN | apply Kd.V_drew)); exact HO_328a.out) hb); have n4_ := Am (Kd.V_below (by (with_reducible repeat (first | apply Kd.V_alloc | apply Kd.V_drewN | apply Kd.V_drew)); exact HO_329a.out) hb); have n5_ := Am (Kd.N_below (by (with_reducible repeat (first | apply Kd.N_alloc | apply Kd.N_drewN | apply Kd.N_drew)); exact HO_343a.out) hb); have n6_ := Am (blk_below (g := gb327) (o := .cells #[.slice A0_0 l0_0.length c0_0] 24 (0, 0)) (by (with_reducible repeat (first | refine blk_drewN ?_ _ | refine blk_drew ?_ | refine blk_alloc ?_ _)); exact BK327.out) hb); have n7_ := Am (blk_below (g := gb328) (o := .cells #[.slice A1_0 l1_0.length c1_0] 24 (0, 0)) (by (with_reducible repeat (first | refine blk_drewN ?_ _ | refine blk_drew ?_ | refine blk_alloc ?_ _)); exact BK328.out) hb); have n8_ := Am (blk_below (g := gb342) (o := .cells #[.slice Ao43 y339.length co43] 24 (0, 0)) (by (with_reducible repeat (first | refine blk_drewN ?_ _ | refine blk_drew ?_ | refine blk_alloc ?_ _)); exact BK342.out) hb); have n9_ := Am (below_step (by repeat (first | (with_reducible first | exact HB.out | apply below_alloc | apply pw_below_drewN | apply below_drew1 | refine below_set ?_ GE327.out | refine below_set ?_ GE328.out | refine below_set ?_ GE342.out) | exact HB.out)) hb); clear HO_8; clear HO_9; clear HO_10; clear HO_328a; clear HO_329a; clear HO_343a; clear BK327; clear BK328; clear BK342; clear HB; have HO_8 := n0_; have HO_9 := n1_; have HO_10 := n2_; have HO_328a := n3_; have HO_329a := n4_; have HO_343a := n5_; have BK327 := n6_; have BK328 := n7_; have BK342 := n8_; have HB := n9_; clear n0_ n1_ n2_ n3_ n4_ n5_ n6_ n7_ n8_ n9_; (try clear hb); (try clear hb2); (try clear hk); (try clear hi); obtain ⟨hcz134_0, hfz134_0⟩ := blk1_ BK342.out) | ((with_reducible refine gate_callee (f := 10) rfl ?_); refine goesL_ (some 104) rfl rfl Try.func10 (by kernel_rfl) rfl #[.agg #[.slice Ao43 y339.length co43], .int .i64 a2] rfl (by (try simp only [List.map_toArray, List.map_cons, List.map_nil]); first | done | rfl | (simp only [List.length_drop, List.length_take]; rfl)) ?_; (with_reducible refine (plan_Find.calls _ _ y339 a2 t364 t365 t366 _ ?side1 ?side2 A93.out).mono ?_); (case side1 => repeat (first | exact (Kd.N_reads' HO_343a.out).2.2 | (with_reducible refine Kd.C_alloc ?_ _) | (with_reducible refine Kd.C_drewN ?_ _) | (with_reducible refine Kd.C_drew ?_))); (case side2 => exact (Kd.N_reads' HO_343a.out).2.1); rintro e w135 ⟨rfl, hb⟩; refine ⟨_, rfl, ?_⟩; have n0_ := Am (Kd.R_below (by (with_reducible repeat (first | apply Kd.R_alloc | apply Kd.R_drewN | apply Kd.R_drew)); exact HO_8.out) hb); have n1_ := Am (Kd.R_below (by (with_reducible repeat (first | apply Kd.R_alloc | apply Kd.R_drewN | apply Kd.R_drew)); exact HO_9.out) hb); have n2_ := Am (Kd.R_below (by (with_reducible repeat (first | apply Kd.R_alloc | apply Kd.R_drewN | apply Kd.R_drew)); exact HO_10.out) hb); have n3_ := Am (Kd.V_below (by (with_reducible repeat (first | apply Kd.V_alloc | apply Kd.V_drewN | apply Kd.V_drew)); exact HO_328a.out) hb); have n4_ := Am (Kd.V_below (by (with_reducible repeat (first | apply Kd.V_alloc | apply Kd.V_drewN | apply Kd.V_drew)); exact HO_329a.out) hb); have n5_ := Am (Kd.N_below (by (with_reducible repeat (first | apply Kd.N_alloc | apply Kd.N_drewN | apply Kd.N_drew)); exact HO_343a.out) hb); have n6_ := Am (blk_below (g := gb327) (o := .cells #[.slice A0_0 l0_0.length c0_0] 24 (0, 0)) (by (with_reducible repeat (first | refine blk_drewN ?_ _ | refine blk_drew ?_ | refine blk_alloc ?_ _)); exact BK327.out) hb); have n7_ := Am (blk_below (g := gb328) (o := .cells #[.slice A1_0 l1_0.length c1_0] 24 (0, 0)) (by (with_reducible repeat (first | refine blk_drewN ?_ _ | refine blk_drew ?_ | refine blk_alloc ?_ _)); exact BK328.out) hb); have n8_ := Am (blk_below (g := gb342) (o := .cells #[.slice Ao43 y339.length co43] 24 (0, 0)) (by (with_reducible repeat (first | refine blk_drewN ?_ _ | refine blk_drew ?_ | refine blk_alloc ?_ _)); exact BK342.out) hb); have n9_ := Am (below_step (by repeat (first | (with_reducible first | exact HB.out | apply below_alloc | apply pw_below_drewN | apply below_drew1 | refine below_set ?_ GE327.out | refine below_set ?_ GE328.out | refine below_set ?_ GE342.out) | exact HB.out)) hb); clear HO_8; clear HO_9; clear HO_10; clear HO_328a; clear HO_329a; clear HO_343a; clear BK327; clear BK328; clear BK342; clear HB; have HO_8 := n0_; have HO_9 := n1_; have HO_10 := n2_; have HO_328a := n3_; have HO_329a := n4_; have HO_343a := n5_; have BK327 := n6_; have BK328 := n7_; have BK342 := n8_; have HB := n9_; clear n0_ n1_ n2_ n3_ n4_ n5_ n6_ n7_ n8_ n9_; (try clear hb); (try clear hb2); (try clear hk); (try clear hi); obtain ⟨hcz136_0, hfz136_0⟩ := blk1_ BK327.out))
                go_ret
                exact ⟨by first | rfl | (simp [errW_none, errW_some] <;> rfl) | (simp [*, errW_none, errW_some] <;> rfl), by repeat (first | (with_reducible first | exact HB.out | apply below_alloc | apply pw_below_drewN | apply below_drew1 | refine below_set ?_ GE327.out | refine below_set ?_ GE328.out | refine below_set ?_ GE342.out) | exact HB.out)⟩
               ·replace c126 := Bool.eq_false_iff.mpr c126
                subst c126
                have H1 : (if t364 = 0 then (some true) else (some false)) = some r := by rw [if_neg (show ¬ (false = true) by decide)] at H; exact H
                clear H
                have H := H1
                clear H1
                by_cases c137 : t364 = 0
                ·rw [if_pos c137] at H
                 have c137b0 : (t364 == 0) = true := beq_iff_eq.mpr c137
                 have c137b1 : (t364 != 0) = false := bne_eq_false_iff_eq.mpr c137
                 clear c137
                 obtain rfl := Option.some.inj H
                 have hnb138 := NB327_328.out
                 have hnc138 := NB328_327.out
                 have hnb139 := NB327_342.out
                 have hnc139 := NB342_327.out
                 obtain ⟨hcz140_0, hfz140_0⟩ := blk1_ BK327.out
                 go_wp2_with (first | ((with_reducible refine gate_callee (f := 10) rfl ?_); refine goesL_ (some 90) rfl rfl Try.func10 (by kernel_rfl) rfl #[.agg #[.slice A0_0 l0_0.length c0_0], .int .i64 a2] rfl (by (try simp only [List.map_toArray, List.map_cons, List.map_nil]); first | done | rfl | (simp only [List.length_drop, List.length_take]; rfl)) ?_; (with_reducible refine (plan_Find.calls _ _ l0_0 a2 t358 t359 false _ ?side1 ?side2 A91.out).mono ?_); (case side1 => repeat (first | exact (Kd.V_reads' HO_328a.out).2.2 | (with_reducible refine Kd.C_alloc ?_ _) | (with_reducible refine Kd.C_drewN ?_ _) | (with_reducible refine Kd.C_drew ?_))); (case side2 => exact (Kd.V_reads' HO_328a.out).2.1); rintro e w141 ⟨rfl, hb⟩; refine ⟨_, rfl, ?_⟩; have n0_ := Am (Kd.R_below (by (with_reducible repeat (first | apply Kd.R_alloc | apply Kd.R_drewN | apply Kd.R_drew)); exact HO_8.out) hb); have n1_ := Am (Kd.R_below (by (with_reducible repeat (first | apply Kd.R_alloc | apply Kd.R_drewN | apply Kd.R_drew)); exact HO_9.out) hb); have n2_ := Am (Kd.R_below (by (with_reducible repeat (first | apply Kd.R_alloc | apply Kd.R_drewN | apply Kd.R_drew)); exact HO_10.out) hb); have n3_ := Am (Kd.V_below (by (with_reducible repeat (first | apply Kd.V_alloc | apply Kd.V_drewN | apply Kd.V_drew)); exact HO_328a.out) hb); have n4_ := Am (Kd.V_below (by (with_reducible repeat (first | apply Kd.V_alloc | apply Kd.V_drewN | apply Kd.V_drew)); exact HO_329a.out) hb); have n5_ := Am (Kd.N_below (by (with_reducible repeat (first | apply Kd.N_alloc | apply Kd.N_drewN | apply Kd.N_drew)); exact HO_343a.out) hb); have n6_ := Am (blk_below (g := gb327) (o := .cells #[.slice A0_0 l0_0.length c0_0] 24 (0, 0)) (by (with_reducible repeat (first | refine blk_drewN ?_ _ | refine blk_drew ?_ | refine blk_alloc ?_ _)); exact BK327.out) hb); have n7_ := Am (blk_below (g := gb328) (o := .cells #[.slice A1_0 l1_0.length c1_0] 24 (0, 0)) (by (with_reducible repeat (first | refine blk_drewN ?_ _ | refine blk_drew ?_ | refine blk_alloc ?_ _)); exact BK328.out) hb); have n8_ := Am (blk_below (g := gb342) (o := .cells #[.slice Ao43 y339.length co43] 24 (0, 0)) (by (with_reducible repeat (first | refine blk_drewN ?_ _ | refine blk_drew ?_ | refine blk_alloc ?_ _)); exact BK342.out) hb); have n9_ := Am (below_step (by repeat (first | (with_reducible first | exact HB.out | apply below_alloc | apply pw_below_drewN | apply below_drew1 | refine below_set ?_ GE327.out | refine below_set ?_ GE328.out | refine below_set ?_ GE342.out) | exact HB.out)) hb); clear HO_8; clear HO_9; clear HO_10; clear HO_328a; clear HO_329a; clear HO_343a; clear BK327; clear BK328; clear BK342; clear HB; have HO_8 := n0_; have HO_9 := n1_; have HO_10 := n2_; have HO_328a := n3_; have HO_329a := n4_; have HO_343a := n5_; have BK327 := n6_; have BK328 := n7_; have BK342 := n8_; have HB := n9_; clear n0_ n1_ n2_ n3_ n4_ n5_ n6_ n7_ n8_ n9_; (try clear hb); (try clear hb2); (try clear hk); (try clear hi); have hnb142 := NB328_342.out; have hnc142 := NB342_328.out; obtain ⟨hcz143_0, hfz143_0⟩ := blk1_ BK328.out) | ((with_reducible refine gate_callee (f := 10) rfl ?_); refine goesL_ (some 97) rfl rfl Try.func10 (by kernel_rfl) rfl #[.agg #[.slice A1_0 l1_0.length c1_0], .int .i64 a2] rfl (by (try simp only [List.map_toArray, List.map_cons, List.map_nil]); first | done | rfl | (simp only [List.length_drop, List.length_take]; rfl)) ?_; (with_reducible refine (plan_Find.calls _ _ l1_0 a2 t361 t362 false _ ?side1 ?side2 A92.out).mono ?_); (case side1 => repeat (first | exact (Kd.V_reads' HO_329a.out).2.2 | (with_reducible refine Kd.C_alloc ?_ _) | (with_reducible refine Kd.C_drewN ?_ _) | (with_reducible refine Kd.C_drew ?_))); (case side2 => exact (Kd.V_reads' HO_329a.out).2.1); rintro e w144 ⟨rfl, hb⟩; refine ⟨_, rfl, ?_⟩; have n0_ := Am (Kd.R_below (by (with_reducible repeat (first | apply Kd.R_alloc | apply Kd.R_drewN | apply Kd.R_drew)); exact HO_8.out) hb); have n1_ := Am (Kd.R_below (by (with_reducible repeat (first | apply Kd.R_alloc | apply Kd.R_drewN | apply Kd.R_drew)); exact HO_9.out) hb); have n2_ := Am (Kd.R_below (by (with_reducible repeat (first | apply Kd.R_alloc | apply Kd.R_drewN | apply Kd.R_drew)); exact HO_10.out) hb); have n3_ := Am (Kd.V_below (by (with_reducible repeat (first | apply Kd.V_alloc | apply Kd.V_drewN | apply Kd.V_drew)); exact HO_328a.out) hb); have n4_ := Am (Kd.V_below (by (with_reducible repeat (first | apply Kd.V_alloc | apply Kd.V_drewN | apply Kd.V_drew)); exact HO_329a.out) hb); have n5_ := Am (Kd.N_below (by (with_reducible repeat (first | apply Kd.N_alloc | apply Kd.N_drewN | apply Kd.N_drew)); exact HO_343a.out) hb); have n6_ := Am (blk_below (g := gb327) (o := .cells #[.slice A0_0 l0_0.length c0_0] 24 (0, 0)) (by (with_reducible repeat (first | refine blk_drewN ?_ _ | refine blk_drew ?_ | refine blk_alloc ?_ _)); exact BK327.out) hb); have n7_ := Am (blk_below (g := gb328) (o := .cells #[.slice A1_0 l1_0.length c1_0] 24 (0, 0)) (by (with_reducible repeat (first | refine blk_drewN ?_ _ | refine blk_drew ?_ | refine blk_alloc ?_ _)); exact BK328.out) hb); have n8_ := Am (blk_below (g := gb342) (o := .cells #[.slice Ao43 y339.length co43] 24 (0, 0)) (by (with_reducible repeat (first | refine blk_drewN ?_ _ | refine blk_drew ?_ | refine blk_alloc ?_ _)); exact BK342.out) hb); have n9_ := Am (below_step (by repeat (first | (with_reducible first | exact HB.out | apply below_alloc | apply pw_below_drewN | apply below_drew1 | refine below_set ?_ GE327.out | refine below_set ?_ GE328.out | refine below_set ?_ GE342.out) | exact HB.out)) hb); clear HO_8; clear HO_9; clear HO_10; clear HO_328a; clear HO_329a; clear HO_343a; clear BK327; clear BK328; clear BK342; clear HB; have HO_8 := n0_; have HO_9 := n1_; have HO_10 := n2_; have HO_328a := n3_; have HO_329a := n4_; have HO_343a := n5_; have BK327 := n6_; have BK328 := n7_; have BK342 := n8_; have HB := n9_; clear n0_ n1_ n2_ n3_ n4_ n5_ n6_ n7_ n8_ n9_; (try clear hb); (try clear hb2); (try clear hk); (try clear hi); obtain ⟨hcz145_0, hfz145_0⟩ := blk1_ BK342.out) | ((with_reducible refine gate_callee (f := 10) rfl ?_); refine goesL_ (some 104) rfl rfl Try.func10 (by kernel_rfl) rfl #[.agg #[.slice Ao43 y339.length co43], .int .i64 a2] rfl (by (try simp only [List.map_toArray, List.map_cons, List.map_nil]); first | done | rfl | (simp only [List.length_drop, List.length_take]; rfl)) ?_; (with_reducible refine (plan_Find.calls _ _ y339 a2 t364 t365 t366 _ ?side1 ?side2 A93.out).mono ?_); (case side1 => repeat (first | exact (Kd.N_reads' HO_343a.out).2.2 | (with_reducible refine Kd.C_alloc ?_ _) | (with_reducible refine Kd.C_drewN ?_ _) | (with_reducible refine Kd.C_drew ?_))); (case side2 => exact (Kd.N_reads' HO_343a.out).2.1); rintro e w146 ⟨rfl, hb⟩; refine ⟨_, rfl, ?_⟩; have n0_ := Am (Kd.R_below (by (with_reducible repeat (first | apply Kd.R_alloc | apply Kd.R_drewN | apply Kd.R_drew)); exact HO_8.out) hb); have n1_ := Am (Kd.R_below (by (with_reducible repeat (first | apply Kd.R_alloc | apply Kd.R_drewN | apply Kd.R_drew)); exact HO_9.out) hb); have n2_ := Am (Kd.R_below (by (with_reducible repeat (first | apply Kd.R_alloc | apply Kd.R_drewN | apply Kd.R_drew)); exact HO_10.out) hb); have n3_ := Am (Kd.V_below (by (with_reducible repeat (first | apply Kd.V_alloc | apply Kd.V_drewN | apply Kd.V_drew)); exact HO_328a.out) hb); have n4_ := Am (Kd.V_below (by (with_reducible repeat (first | apply Kd.V_alloc | apply Kd.V_drewN | apply Kd.V_drew)); exact HO_329a.out) hb); have n5_ := Am (Kd.N_below (by (with_reducible repeat (first | apply Kd.N_alloc | apply Kd.N_drewN | apply Kd.N_drew)); exact HO_343a.out) hb); have n6_ := Am (blk_below (g := gb327) (o := .cells #[.slice A0_0 l0_0.length c0_0] 24 (0, 0)) (by (with_reducible repeat (first | refine blk_drewN ?_ _ | refine blk_drew ?_ | refine blk_alloc ?_ _)); exact BK327.out) hb); have n7_ := Am (blk_below (g := gb328) (o := .cells #[.slice A1_0 l1_0.length c1_0] 24 (0, 0)) (by (with_reducible repeat (first | refine blk_drewN ?_ _ | refine blk_drew ?_ | refine blk_alloc ?_ _)); exact BK328.out) hb); have n8_ := Am (blk_below (g := gb342) (o := .cells #[.slice Ao43 y339.length co43] 24 (0, 0)) (by (with_reducible repeat (first | refine blk_drewN ?_ _ | refine blk_drew ?_ | refine blk_alloc ?_ _)); exact BK342.out) hb); have n9_ := Am (below_step (by repeat (first | (with_reducible first | exact HB.out | apply below_alloc | apply pw_below_drewN | apply below_drew1 | refine below_set ?_ GE327.out | refine below_set ?_ GE328.out | refine below_set ?_ GE342.out) | exact HB.out)) hb); clear HO_8; clear HO_9; clear HO_10; clear HO_328a; clear HO_329a; clear HO_343a; clear BK327; clear BK328; clear BK342; clear HB; have HO_8 := n0_; have HO_9 := n1_; have HO_10 := n2_; have HO_328a := n3_; have HO_329a := n4_; have HO_343a := n5_; have BK327 := n6_; have BK328 := n7_; have BK342 := n8_; have HB := n9_; clear n0_ n1_ n2_ n3_ n4_ n5_ n6_ n7_ n8_ n9_; (try clear hb); (try clear hb2); (try clear hk); (try clear hi)))
                 go_ret
                 exact ⟨by first | rfl | (simp [errW_none, errW_some] <;> rfl) | (simp [*, errW_none, errW_some] <;> rfl), by repeat (first | (with_reducible first | exact HB.out | apply below_alloc | apply pw_below_drewN | apply below_drew1 | refine below_set ?_ GE327.out | refine below_set ?_ GE328.out | refine below_set ?_ GE342.out) | exact HB.out)⟩
                ·rw [if_neg c137] at H
                 have c137b0 : (t364 == 0) = false := beq_eq_false_iff_ne.mpr c137
                 have c137b1 : (t364 != 0) = true := bne_iff_ne.mpr c137
                 obtain rfl := Option.some.inj H
                 have hnb147 := NB327_328.out
                 have hnc147 := NB328_327.out
                 have hnb148 := NB327_342.out
                 have hnc148 := NB342_327.out
                 obtain ⟨hcz149_0, hfz149_0⟩ := blk1_ BK327.out
                 go_wp2_with (first | ((with_reducible refine gate_callee (f := 10) rfl ?_); refine goesL_ (some 90) rfl rfl Try.func10 (by kernel_rfl) rfl #[.agg #[.slice A0_0 l0_0.length c0_0], .int .i64 a2] rfl (by (try simp only [List.map_toArray, List.map_cons, List.map_nil]); first | done | rfl | (simp only [List.length_drop, List.length_take]; rfl)) ?_; (with_reducible refine (plan_Find.calls _ _ l0_0 a2 t358 t359 false _ ?side1 ?side2 A91.out).mono ?_); (case side1 => repeat (first | exact (Kd.V_reads' HO_328a.out).2.2 | (with_reducible refine Kd.C_alloc ?_ _) | (with_reducible refine Kd.C_drewN ?_ _) | (with_reducible refine Kd.C_drew ?_))); (case side2 => exact (Kd.V_reads' HO_328a.out).2.1); rintro e w150 ⟨rfl, hb⟩; refine ⟨_, rfl, ?_⟩; have n0_ := Am (Kd.R_below (by (with_reducible repeat (first | apply Kd.R_alloc | apply Kd.R_drewN | apply Kd.R_drew)); exact HO_8.out) hb); have n1_ := Am (Kd.R_below (by (with_reducible repeat (first | apply Kd.R_alloc | apply Kd.R_drewN | apply Kd.R_drew)); exact HO_9.out) hb); have n2_ := Am (Kd.R_below (by (with_reducible repeat (first | apply Kd.R_alloc | apply Kd.R_drewN | apply Kd.R_drew)); exact HO_10.out) hb); have n3_ := Am (Kd.V_below (by (with_reducible repeat (first | apply Kd.V_alloc | apply Kd.V_drewN | apply Kd.V_drew)); exact HO_328a.out) hb); have n4_ := Am (Kd.V_below (by (with_reducible repeat (first | apply Kd.V_alloc | apply Kd.V_drewN | apply Kd.V_drew)); exact HO_329a.out) hb); have n5_ := Am (Kd.N_below (by (with_reducible repeat (first | apply Kd.N_alloc | apply Kd.N_drewN | apply Kd.N_drew)); exact HO_343a.out) hb); have n6_ := Am (blk_below (g := gb327) (o := .cells #[.slice A0_0 l0_0.length c0_0] 24 (0, 0)) (by (with_reducible repeat (first | refine blk_drewN ?_ _ | refine blk_drew ?_ | refine blk_alloc ?_ _)); exact BK327.out) hb); have n7_ := Am (blk_below (g := gb328) (o := .cells #[.slice A1_0 l1_0.length c1_0] 24 (0, 0)) (by (with_reducible repeat (first | refine blk_drewN ?_ _ | refine blk_drew ?_ | refine blk_alloc ?_ _)); exact BK328.out) hb); have n8_ := Am (blk_below (g := gb342) (o := .cells #[.slice Ao43 y339.length co43] 24 (0, 0)) (by (with_reducible repeat (first | refine blk_drewN ?_ _ | refine blk_drew ?_ | refine blk_alloc ?_ _)); exact BK342.out) hb); have n9_ := Am (below_step (by repeat (first | (with_reducible first | exact HB.out | apply below_alloc | apply pw_below_drewN | apply below_drew1 | refine below_set ?_ GE327.out | refine below_set ?_ GE328.out | refine below_set ?_ GE342.out) | exact HB.out)) hb); clear HO_8; clear HO_9; clear HO_10; clear HO_328a; clear HO_329a; clear HO_343a; clear BK327; clear BK328; clear BK342; clear HB; have HO_8 := n0_; have HO_9 := n1_; have HO_10 := n2_; have HO_328a := n3_; have HO_329a := n4_; have HO_343a := n5_; have BK327 := n6_; have BK328 := n7_; have BK342 := n8_; have HB := n9_; clear n0_ n1_ n2_ n3_ n4_ n5_ n6_ n7_ n8_ n9_; (try clear hb); (try clear hb2); (try clear hk); (try clear hi); have hnb151 := NB328_342.out; have hnc151 := NB342_328.out; obtain ⟨hcz152_0, hfz152_0⟩ := blk1_ BK328.out) | ((with_reducible refine gate_callee (f := 10) rfl ?_); refine goesL_ (some 97) rfl rfl Try.func10 (by kernel_rfl) rfl #[.agg #[.slice A1_0 l1_0.length c1_0], .int .i64 a2] rfl (by (try simp only [List.map_toArray, List.map_cons, List.map_nil]); first | done | rfl | (simp only [List.length_drop, List.length_take]; rfl)) ?_; (with_reducible refine (plan_Find.calls _ _ l1_0 a2 t361 t362 false _ ?side1 ?side2 A92.out).mono ?_); (case side1 => repeat (first | exact (Kd.V_reads' HO_329a.out).2.2 | (with_reducible refine Kd.C_alloc ?_ _) | (with_reducible refine Kd.C_drewN ?_ _) | (with_reducible refine Kd.C_drew ?_))); (case side2 => exact (Kd.V_reads' HO_329a.out).2.1); rintro e w153 ⟨rfl, hb⟩; refine ⟨_, rfl, ?_⟩; have n0_ := Am (Kd.R_below (by (with_reducible repeat (first | apply Kd.R_alloc | apply Kd.R_drewN | apply Kd.R_drew)); exact HO_8.out) hb); have n1_ := Am (Kd.R_below (by (with_reducible repeat (first | apply Kd.R_alloc | apply Kd.R_drewN | apply Kd.R_drew)); exact HO_9.out) hb); have n2_ := Am (Kd.R_below (by (with_reducible repeat (first | apply Kd.R_alloc | apply Kd.R_drewN | apply Kd.R_drew)); exact HO_10.out) hb); have n3_ := Am (Kd.V_below (by (with_reducible repeat (first | apply Kd.V_alloc | apply Kd.V_drewN | apply Kd.V_drew)); exact HO_328a.out) hb); have n4_ := Am (Kd.V_below (by (with_reducible repeat (first | apply Kd.V_alloc | apply Kd.V_drewN | apply Kd.V_drew)); exact HO_329a.out) hb); have n5_ := Am (Kd.N_below (by (with_reducible repeat (first | apply Kd.N_alloc | apply Kd.N_drewN | apply Kd.N_drew)); exact HO_343a.out) hb); have n6_ := Am (blk_below (g := gb327) (o := .cells #[.slice A0_0 l0_0.length c0_0] 24 (0, 0)) (by (with_reducible repeat (first | refine blk_drewN ?_ _ | refine blk_drew ?_ | refine blk_alloc ?_ _)); exact BK327.out) hb); have n7_ := Am (blk_below (g := gb328) (o := .cells #[.slice A1_0 l1_0.length c1_0] 24 (0, 0)) (by (with_reducible repeat (first | refine blk_drewN ?_ _ | refine blk_drew ?_ | refine blk_alloc ?_ _)); exact BK328.out) hb); have n8_ := Am (blk_below (g := gb342) (o := .cells #[.slice Ao43 y339.length co43] 24 (0, 0)) (by (with_reducible repeat (first | refine blk_drewN ?_ _ | refine blk_drew ?_ | refine blk_alloc ?_ _)); exact BK342.out) hb); have n9_ := Am (below_step (by repeat (first | (with_reducible first | exact HB.out | apply below_alloc | apply pw_below_drewN | apply below_drew1 | refine below_set ?_ GE327.out | refine below_set ?_ GE328.out | refine below_set ?_ GE342.out) | exact HB.out)) hb); clear HO_8; clear HO_9; clear HO_10; clear HO_328a; clear HO_329a; clear HO_343a; clear BK327; clear BK328; clear BK342; clear HB; have HO_8 := n0_; have HO_9 := n1_; have HO_10 := n2_; have HO_328a := n3_; have HO_329a := n4_; have HO_343a := n5_; have BK327 := n6_; have BK328 := n7_; have BK342 := n8_; have HB := n9_; clear n0_ n1_ n2_ n3_ n4_ n5_ n6_ n7_ n8_ n9_; (try clear hb); (try clear hb2); (try clear hk); (try clear hi); obtain ⟨hcz154_0, hfz154_0⟩ := blk1_ BK342.out) | ((with_reducible refine gate_callee (f := 10) rfl ?_); refine goesL_ (some 104) rfl rfl Try.func10 (by kernel_rfl) rfl #[.agg #[.slice Ao43 y339.length co43], .int .i64 a2] rfl (by (try simp only [List.map_toArray, List.map_cons, List.map_nil]); first | done | rfl | (simp only [List.length_drop, List.length_take]; rfl)) ?_; (with_reducible refine (plan_Find.calls _ _ y339 a2 t364 t365 t366 _ ?side1 ?side2 A93.out).mono ?_); (case side1 => repeat (first | exact (Kd.N_reads' HO_343a.out).2.2 | (with_reducible refine Kd.C_alloc ?_ _) | (with_reducible refine Kd.C_drewN ?_ _) | (with_reducible refine Kd.C_drew ?_))); (case side2 => exact (Kd.N_reads' HO_343a.out).2.1); rintro e w155 ⟨rfl, hb⟩; refine ⟨_, rfl, ?_⟩; have n0_ := Am (Kd.R_below (by (with_reducible repeat (first | apply Kd.R_alloc | apply Kd.R_drewN | apply Kd.R_drew)); exact HO_8.out) hb); have n1_ := Am (Kd.R_below (by (with_reducible repeat (first | apply Kd.R_alloc | apply Kd.R_drewN | apply Kd.R_drew)); exact HO_9.out) hb); have n2_ := Am (Kd.R_below (by (with_reducible repeat (first | apply Kd.R_alloc | apply Kd.R_drewN | apply Kd.R_drew)); exact HO_10.out) hb); have n3_ := Am (Kd.V_below (by (with_reducible repeat (first | apply Kd.V_alloc | apply Kd.V_drewN | apply Kd.V_drew)); exact HO_328a.out) hb); have n4_ := Am (Kd.V_below (by (with_reducible repeat (first | apply Kd.V_alloc | apply Kd.V_drewN | apply Kd.V_drew)); exact HO_329a.out) hb); have n5_ := Am (Kd.N_below (by (with_reducible repeat (first | apply Kd.N_alloc | apply Kd.N_drewN | apply Kd.N_drew)); exact HO_343a.out) hb); have n6_ := Am (blk_below (g := gb327) (o := .cells #[.slice A0_0 l0_0.length c0_0] 24 (0, 0)) (by (with_reducible repeat (first | refine blk_drewN ?_ _ | refine blk_drew ?_ | refine blk_alloc ?_ _)); exact BK327.out) hb); have n7_ := Am (blk_below (g := gb328) (o := .cells #[.slice A1_0 l1_0.length c1_0] 24 (0, 0)) (by (with_reducible repeat (first | refine blk_drewN ?_ _ | refine blk_drew ?_ | refine blk_alloc ?_ _)); exact BK328.out) hb); have n8_ := Am (blk_below (g := gb342) (o := .cells #[.slice Ao43 y339.length co43] 24 (0, 0)) (by (with_reducible repeat (first | refine blk_drewN ?_ _ | refine blk_drew ?_ | refine blk_alloc ?_ _)); exact BK342.out) hb); have n9_ := Am (below_step (by repeat (first | (with_reducible first | exact HB.out | apply below_alloc | apply pw_below_drewN | apply below_drew1 | refine below_set ?_ GE327.out | refine below_set ?_ GE328.out | refine below_set ?_ GE342.out) | exact HB.out)) hb); clear HO_8; clear HO_9; clear HO_10; clear HO_328a; clear HO_329a; clear HO_343a; clear BK327; clear BK328; clear BK342; clear HB; have HO_8 := n0_; have HO_9 := n1_; have HO_10 := n2_; have HO_328a := n3_; have HO_329a := n4_; have HO_343a := n5_; have BK327 := n6_; have BK328 := n7_; have BK342 := n8_; have HB := n9_; clear n0_ n1_ n2_ n3_ n4_ n5_ n6_ n7_ n8_ n9_; (try clear hb); (try clear hb2); (try clear hk); (try clear hi)))
                 go_ret
                 exact ⟨by first | rfl | (simp [errW_none, errW_some] <;> rfl) | (simp [*, errW_none, errW_some] <;> rfl), by repeat (first | (with_reducible first | exact HB.out | apply below_alloc | apply pw_below_drewN | apply below_drew1 | refine below_set ?_ GE327.out | refine below_set ?_ GE328.out | refine below_set ?_ GE342.out) | exact HB.out)⟩
              ·rw [if_neg c125] at H
               have c125b0 : (t365 == t362) = false := beq_eq_false_iff_ne.mpr c125
               have c125b1 : (t365 != t362) = true := bne_iff_ne.mpr c125
               obtain rfl := Option.some.inj H
               have hnb156 := NB327_328.out
               have hnc156 := NB328_327.out
               have hnb157 := NB327_342.out
               have hnc157 := NB342_327.out
               obtain ⟨hcz158_0, hfz158_0⟩ := blk1_ BK327.out
               go_wp2_with (first | ((with_reducible refine gate_callee (f := 10) rfl ?_); refine goesL_ (some 90) rfl rfl Try.func10 (by kernel_rfl) rfl #[.agg #[.slice A0_0 l0_0.length c0_0], .int .i64 a2] rfl (by (try simp only [List.map_toArray, List.map_cons, List.map_nil]); first | done | rfl | (simp only [List.length_drop, List.length_take]; rfl)) ?_; (with_reducible refine (plan_Find.calls _ _ l0_0 a2 t358 t359 false _ ?side1 ?side2 A91.out).mono ?_); (case side1 => repeat (first | exact (Kd.V_reads' HO_328a.out).2.2 | (with_reducible refine Kd.C_alloc ?_ _) | (with_reducible refine Kd.C_drewN ?_ _) | (with_reducible refine Kd.C_drew ?_))); (case side2 => exact (Kd.V_reads' HO_328a.out).2.1); rintro e w159 ⟨rfl, hb⟩; refine ⟨_, rfl, ?_⟩; have n0_ := Am (Kd.R_below (by (with_reducible repeat (first | apply Kd.R_alloc | apply Kd.R_drewN | apply Kd.R_drew)); exact HO_8.out) hb); have n1_ := Am (Kd.R_below (by (with_reducible repeat (first | apply Kd.R_alloc | apply Kd.R_drewN | apply Kd.R_drew)); exact HO_9.out) hb); have n2_ := Am (Kd.R_below (by (with_reducible repeat (first | apply Kd.R_alloc | apply Kd.R_drewN | apply Kd.R_drew)); exact HO_10.out) hb); have n3_ := Am (Kd.V_below (by (with_reducible repeat (first | apply Kd.V_alloc | apply Kd.V_drewN | apply Kd.V_drew)); exact HO_328a.out) hb); have n4_ := Am (Kd.V_below (by (with_reducible repeat (first | apply Kd.V_alloc | apply Kd.V_drewN | apply Kd.V_drew)); exact HO_329a.out) hb); have n5_ := Am (Kd.N_below (by (with_reducible repeat (first | apply Kd.N_alloc | apply Kd.N_drewN | apply Kd.N_drew)); exact HO_343a.out) hb); have n6_ := Am (blk_below (g := gb327) (o := .cells #[.slice A0_0 l0_0.length c0_0] 24 (0, 0)) (by (with_reducible repeat (first | refine blk_drewN ?_ _ | refine blk_drew ?_ | refine blk_alloc ?_ _)); exact BK327.out) hb); have n7_ := Am (blk_below (g := gb328) (o := .cells #[.slice A1_0 l1_0.length c1_0] 24 (0, 0)) (by (with_reducible repeat (first | refine blk_drewN ?_ _ | refine blk_drew ?_ | refine blk_alloc ?_ _)); exact BK328.out) hb); have n8_ := Am (blk_below (g := gb342) (o := .cells #[.slice Ao43 y339.length co43] 24 (0, 0)) (by (with_reducible repeat (first | refine blk_drewN ?_ _ | refine blk_drew ?_ | refine blk_alloc ?_ _)); exact BK342.out) hb); have n9_ := Am (below_step (by repeat (first | (with_reducible first | exact HB.out | apply below_alloc | apply pw_below_drewN | apply below_drew1 | refine below_set ?_ GE327.out | refine below_set ?_ GE328.out | refine below_set ?_ GE342.out) | exact HB.out)) hb); clear HO_8; clear HO_9; clear HO_10; clear HO_328a; clear HO_329a; clear HO_343a; clear BK327; clear BK328; clear BK342; clear HB; have HO_8 := n0_; have HO_9 := n1_; have HO_10 := n2_; have HO_328a := n3_; have HO_329a := n4_; have HO_343a := n5_; have BK327 := n6_; have BK328 := n7_; have BK342 := n8_; have HB := n9_; clear n0_ n1_ n2_ n3_ n4_ n5_ n6_ n7_ n8_ n9_; (try clear hb); (try clear hb2); (try clear hk); (try clear hi); have hnb160 := NB328_342.out; have hnc160 := NB342_328.out; obtain ⟨hcz161_0, hfz161_0⟩ := blk1_ BK328.out) | ((with_reducible refine gate_callee (f := 10) rfl ?_); refine goesL_ (some 97) rfl rfl Try.func10 (by kernel_rfl) rfl #[.agg #[.slice A1_0 l1_0.length c1_0], .int .i64 a2] rfl (by (try simp only [List.map_toArray, List.map_cons, List.map_nil]); first | done | rfl | (simp only [List.length_drop, List.length_take]; rfl)) ?_; (with_reducible refine (plan_Find.calls _ _ l1_0 a2 t361 t362 t363 _ ?side1 ?side2 A92.out).mono ?_); (case side1 => repeat (first | exact (Kd.V_reads' HO_329a.out).2.2 | (with_reducible refine Kd.C_alloc ?_ _) | (with_reducible refine Kd.C_drewN ?_ _) | (with_reducible refine Kd.C_drew ?_))); (case side2 => exact (Kd.V_reads' HO_329a.out).2.1); rintro e w162 ⟨rfl, hb⟩; refine ⟨_, rfl, ?_⟩; have n0_ := Am (Kd.R_below (by (with_reducible repeat (first | apply Kd.R_alloc | apply Kd.R_drewN | apply Kd.R_drew)); exact HO_8.out) hb); have n1_ := Am (Kd.R_below (by (with_reducible repeat (first | apply Kd.R_alloc | apply Kd.R_drewN | apply Kd.R_drew)); exact HO_9.out) hb); have n2_ := Am (Kd.R_below (by (with_reducible repeat (first | apply Kd.R_alloc | apply Kd.R_drewN | apply Kd.R_drew)); exact HO_10.out) hb); have n3_ := Am (Kd.V_below (by (with_reducible repeat (first | apply Kd.V_alloc | apply Kd.V_drewN | apply Kd.V_drew)); exact HO_328a.out) hb); have n4_ := Am (Kd.V_below (by (with_reducible repeat (first | apply Kd.V_alloc | apply Kd.V_drewN | apply Kd.V_drew)); exact HO_329a.out) hb); have n5_ := Am (Kd.N_below (by (with_reducible repeat (first | apply Kd.N_alloc | apply Kd.N_drewN | apply Kd.N_drew)); exact HO_343a.out) hb); have n6_ := Am (blk_below (g := gb327) (o := .cells #[.slice A0_0 l0_0.length c0_0] 24 (0, 0)) (by (with_reducible repeat (first | refine blk_drewN ?_ _ | refine blk_drew ?_ | refine blk_alloc ?_ _)); exact BK327.out) hb); have n7_ := Am (blk_below (g := gb328) (o := .cells #[.slice A1_0 l1_0.length c1_0] 24 (0, 0)) (by (with_reducible repeat (first | refine blk_drewN ?_ _ | refine blk_drew ?_ | refine blk_alloc ?_ _)); exact BK328.out) hb); have n8_ := Am (blk_below (g := gb342) (o := .cells #[.slice Ao43 y339.length co43] 24 (0, 0)) (by (with_reducible repeat (first | refine blk_drewN ?_ _ | refine blk_drew ?_ | refine blk_alloc ?_ _)); exact BK342.out) hb); have n9_ := Am (below_step (by repeat (first | (with_reducible first | exact HB.out | apply below_alloc | apply pw_below_drewN | apply below_drew1 | refine below_set ?_ GE327.out | refine below_set ?_ GE328.out | refine below_set ?_ GE342.out) | exact HB.out)) hb); clear HO_8; clear HO_9; clear HO_10; clear HO_328a; clear HO_329a; clear HO_343a; clear BK327; clear BK328; clear BK342; clear HB; have HO_8 := n0_; have HO_9 := n1_; have HO_10 := n2_; have HO_328a := n3_; have HO_329a := n4_; have HO_343a := n5_; have BK327 := n6_; have BK328 := n7_; have BK342 := n8_; have HB := n9_; clear n0_ n1_ n2_ n3_ n4_ n5_ n6_ n7_ n8_ n9_; (try clear hb); (try clear hb2); (try clear hk); (try clear hi); obtain ⟨hcz163_0, hfz163_0⟩ := blk1_ BK342.out) | ((with_reducible refine gate_callee (f := 10) rfl ?_); refine goesL_ (some 104) rfl rfl Try.func10 (by kernel_rfl) rfl #[.agg #[.slice Ao43 y339.length co43], .int .i64 a2] rfl (by (try simp only [List.map_toArray, List.map_cons, List.map_nil]); first | done | rfl | (simp only [List.length_drop, List.length_take]; rfl)) ?_; (with_reducible refine (plan_Find.calls _ _ y339 a2 t364 t365 t366 _ ?side1 ?side2 A93.out).mono ?_); (case side1 => repeat (first | exact (Kd.N_reads' HO_343a.out).2.2 | (with_reducible refine Kd.C_alloc ?_ _) | (with_reducible refine Kd.C_drewN ?_ _) | (with_reducible refine Kd.C_drew ?_))); (case side2 => exact (Kd.N_reads' HO_343a.out).2.1); rintro e w164 ⟨rfl, hb⟩; refine ⟨_, rfl, ?_⟩; have n0_ := Am (Kd.R_below (by (with_reducible repeat (first | apply Kd.R_alloc | apply Kd.R_drewN | apply Kd.R_drew)); exact HO_8.out) hb); have n1_ := Am (Kd.R_below (by (with_reducible repeat (first | apply Kd.R_alloc | apply Kd.R_drewN | apply Kd.R_drew)); exact HO_9.out) hb); have n2_ := Am (Kd.R_below (by (with_reducible repeat (first | apply Kd.R_alloc | apply Kd.R_drewN | apply Kd.R_drew)); exact HO_10.out) hb); have n3_ := Am (Kd.V_below (by (with_reducible repeat (first | apply Kd.V_alloc | apply Kd.V_drewN | apply Kd.V_drew)); exact HO_328a.out) hb); have n4_ := Am (Kd.V_below (by (with_reducible repeat (first | apply Kd.V_alloc | apply Kd.V_drewN | apply Kd.V_drew)); exact HO_329a.out) hb); have n5_ := Am (Kd.N_below (by (with_reducible repeat (first | apply Kd.N_alloc | apply Kd.N_drewN | apply Kd.N_drew)); exact HO_343a.out) hb); have n6_ := Am (blk_below (g := gb327) (o := .cells #[.slice A0_0 l0_0.length c0_0] 24 (0, 0)) (by (with_reducible repeat (first | refine blk_drewN ?_ _ | refine blk_drew ?_ | refine blk_alloc ?_ _)); exact BK327.out) hb); have n7_ := Am (blk_below (g := gb328) (o := .cells #[.slice A1_0 l1_0.length c1_0] 24 (0, 0)) (by (with_reducible repeat (first | refine blk_drewN ?_ _ | refine blk_drew ?_ | refine blk_alloc ?_ _)); exact BK328.out) hb); have n8_ := Am (blk_below (g := gb342) (o := .cells #[.slice Ao43 y339.length co43] 24 (0, 0)) (by (with_reducible repeat (first | refine blk_drewN ?_ _ | refine blk_drew ?_ | refine blk_alloc ?_ _)); exact BK342.out) hb); have n9_ := Am (below_step (by repeat (first | (with_reducible first | exact HB.out | apply below_alloc | apply pw_below_drewN | apply below_drew1 | refine below_set ?_ GE327.out | refine below_set ?_ GE328.out | refine below_set ?_ GE342.out) | exact HB.out)) hb); clear HO_8; clear HO_9; clear HO_10; clear HO_328a; clear HO_329a; clear HO_343a; clear BK327; clear BK328; clear BK342; clear HB; have HO_8 := n0_; have HO_9 := n1_; have HO_10 := n2_; have HO_328a := n3_; have HO_329a := n4_; have HO_343a := n5_; have BK327 := n6_; have BK328 := n7_; have BK342 := n8_; have HB := n9_; clear n0_ n1_ n2_ n3_ n4_ n5_ n6_ n7_ n8_ n9_; (try clear hb); (try clear hb2); (try clear hk); (try clear hi)))
               go_ret
               exact ⟨by first | rfl | (simp [errW_none, errW_some] <;> rfl) | (simp [*, errW_none, errW_some] <;> rfl), by repeat (first | (with_reducible first | exact HB.out | apply below_alloc | apply pw_below_drewN | apply below_drew1 | refine below_set ?_ GE327.out | refine below_set ?_ GE328.out | refine below_set ?_ GE342.out) | exact HB.out)⟩
             ·rw [if_neg c124] at H
              have c124b0 : (t366 == t363) = false := by simpa using c124
              (try (have c124b1 : decide (t366 = t363) = false := by simpa using c124))
              (try (have c124b2 : (t366 == t363) = false := by simpa using c124))
              (try (have c124b3 : ¬ (t366 = t363) := by simpa using c124))
              clear c124
              obtain rfl := Option.some.inj H
              have hnb165 := NB327_328.out
              have hnc165 := NB328_327.out
              have hnb166 := NB327_342.out
              have hnc166 := NB342_327.out
              obtain ⟨hcz167_0, hfz167_0⟩ := blk1_ BK327.out
              go_wp2_with (first | ((with_reducible refine gate_callee (f := 10) rfl ?_); refine goesL_ (some 90) rfl rfl Try.func10 (by kernel_rfl) rfl #[.agg #[.slice A0_0 l0_0.length c0_0], .int .i64 a2] rfl (by (try simp only [List.map_toArray, List.map_cons, List.map_nil]); first | done | rfl | (simp only [List.length_drop, List.length_take]; rfl)) ?_; (with_reducible refine (plan_Find.calls _ _ l0_0 a2 t358 t359 false _ ?side1 ?side2 A91.out).mono ?_); (case side1 => repeat (first | exact (Kd.V_reads' HO_328a.out).2.2 | (with_reducible refine Kd.C_alloc ?_ _) | (with_reducible refine Kd.C_drewN ?_ _) | (with_reducible refine Kd.C_drew ?_))); (case side2 => exact (Kd.V_reads' HO_328a.out).2.1); rintro e w168 ⟨rfl, hb⟩; refine ⟨_, rfl, ?_⟩; have n0_ := Am (Kd.R_below (by (with_reducible repeat (first | apply Kd.R_alloc | apply Kd.R_drewN | apply Kd.R_drew)); exact HO_8.out) hb); have n1_ := Am (Kd.R_below (by (with_reducible repeat (first | apply Kd.R_alloc | apply Kd.R_drewN | apply Kd.R_drew)); exact HO_9.out) hb); have n2_ := Am (Kd.R_below (by (with_reducible repeat (first | apply Kd.R_alloc | apply Kd.R_drewN | apply Kd.R_drew)); exact HO_10.out) hb); have n3_ := Am (Kd.V_below (by (with_reducible repeat (first | apply Kd.V_alloc | apply Kd.V_drewN | apply Kd.V_drew)); exact HO_328a.out) hb); have n4_ := Am (Kd.V_below (by (with_reducible repeat (first | apply Kd.V_alloc | apply Kd.V_drewN | apply Kd.V_drew)); exact HO_329a.out) hb); have n5_ := Am (Kd.N_below (by (with_reducible repeat (first | apply Kd.N_alloc | apply Kd.N_drewN | apply Kd.N_drew)); exact HO_343a.out) hb); have n6_ := Am (blk_below (g := gb327) (o := .cells #[.slice A0_0 l0_0.length c0_0] 24 (0, 0)) (by (with_reducible repeat (first | refine blk_drewN ?_ _ | refine blk_drew ?_ | refine blk_alloc ?_ _)); exact BK327.out) hb); have n7_ := Am (blk_below (g := gb328) (o := .cells #[.slice A1_0 l1_0.length c1_0] 24 (0, 0)) (by (with_reducible repeat (first | refine blk_drewN ?_ _ | refine blk_drew ?_ | refine blk_alloc ?_ _)); exact BK328.out) hb); have n8_ := Am (blk_below (g := gb342) (o := .cells #[.slice Ao43 y339.length co43] 24 (0, 0)) (by (with_reducible repeat (first | refine blk_drewN ?_ _ | refine blk_drew ?_ | refine blk_alloc ?_ _)); exact BK342.out) hb); have n9_ := Am (below_step (by repeat (first | (with_reducible first | exact HB.out | apply below_alloc | apply pw_below_drewN | apply below_drew1 | refine below_set ?_ GE327.out | refine below_set ?_ GE328.out | refine below_set ?_ GE342.out) | exact HB.out)) hb); clear HO_8; clear HO_9; clear HO_10; clear HO_328a; clear HO_329a; clear HO_343a; clear BK327; clear BK328; clear BK342; clear HB; have HO_8 := n0_; have HO_9 := n1_; have HO_10 := n2_; have HO_328a := n3_; have HO_329a := n4_; have HO_343a := n5_; have BK327 := n6_; have BK328 := n7_; have BK342 := n8_; have HB := n9_; clear n0_ n1_ n2_ n3_ n4_ n5_ n6_ n7_ n8_ n9_; (try clear hb); (try clear hb2); (try clear hk); (try clear hi); have hnb169 := NB328_342.out; have hnc169 := NB342_328.out; obtain ⟨hcz170_0, hfz170_0⟩ := blk1_ BK328.out) | ((with_reducible refine gate_callee (f := 10) rfl ?_); refine goesL_ (some 97) rfl rfl Try.func10 (by kernel_rfl) rfl #[.agg #[.slice A1_0 l1_0.length c1_0], .int .i64 a2] rfl (by (try simp only [List.map_toArray, List.map_cons, List.map_nil]); first | done | rfl | (simp only [List.length_drop, List.length_take]; rfl)) ?_; (with_reducible refine (plan_Find.calls _ _ l1_0 a2 t361 t362 t363 _ ?side1 ?side2 A92.out).mono ?_); (case side1 => repeat (first | exact (Kd.V_reads' HO_329a.out).2.2 | (with_reducible refine Kd.C_alloc ?_ _) | (with_reducible refine Kd.C_drewN ?_ _) | (with_reducible refine Kd.C_drew ?_))); (case side2 => exact (Kd.V_reads' HO_329a.out).2.1); rintro e w171 ⟨rfl, hb⟩; refine ⟨_, rfl, ?_⟩; have n0_ := Am (Kd.R_below (by (with_reducible repeat (first | apply Kd.R_alloc | apply Kd.R_drewN | apply Kd.R_drew)); exact HO_8.out) hb); have n1_ := Am (Kd.R_below (by (with_reducible repeat (first | apply Kd.R_alloc | apply Kd.R_drewN | apply Kd.R_drew)); exact HO_9.out) hb); have n2_ := Am (Kd.R_below (by (with_reducible repeat (first | apply Kd.R_alloc | apply Kd.R_drewN | apply Kd.R_drew)); exact HO_10.out) hb); have n3_ := Am (Kd.V_below (by (with_reducible repeat (first | apply Kd.V_alloc | apply Kd.V_drewN | apply Kd.V_drew)); exact HO_328a.out) hb); have n4_ := Am (Kd.V_below (by (with_reducible repeat (first | apply Kd.V_alloc | apply Kd.V_drewN | apply Kd.V_drew)); exact HO_329a.out) hb); have n5_ := Am (Kd.N_below (by (with_reducible repeat (first | apply Kd.N_alloc | apply Kd.N_drewN | apply Kd.N_drew)); exact HO_343a.out) hb); have n6_ := Am (blk_below (g := gb327) (o := .cells #[.slice A0_0 l0_0.length c0_0] 24 (0, 0)) (by (with_reducible repeat (first | refine blk_drewN ?_ _ | refine blk_drew ?_ | refine blk_alloc ?_ _)); exact BK327.out) hb); have n7_ := Am (blk_below (g := gb328) (o := .cells #[.slice A1_0 l1_0.length c1_0] 24 (0, 0)) (by (with_reducible repeat (first | refine blk_drewN ?_ _ | refine blk_drew ?_ | refine blk_alloc ?_ _)); exact BK328.out) hb); have n8_ := Am (blk_below (g := gb342) (o := .cells #[.slice Ao43 y339.length co43] 24 (0, 0)) (by (with_reducible repeat (first | refine blk_drewN ?_ _ | refine blk_drew ?_ | refine blk_alloc ?_ _)); exact BK342.out) hb); have n9_ := Am (below_step (by repeat (first | (with_reducible first | exact HB.out | apply below_alloc | apply pw_below_drewN | apply below_drew1 | refine below_set ?_ GE327.out | refine below_set ?_ GE328.out | refine below_set ?_ GE342.out) | exact HB.out)) hb); clear HO_8; clear HO_9; clear HO_10; clear HO_328a; clear HO_329a; clear HO_343a; clear BK327; clear BK328; clear BK342; clear HB; have HO_8 := n0_; have HO_9 := n1_; have HO_10 := n2_; have HO_328a := n3_; have HO_329a := n4_; have HO_343a := n5_; have BK327 := n6_; have BK328 := n7_; have BK342 := n8_; have HB := n9_; clear n0_ n1_ n2_ n3_ n4_ n5_ n6_ n7_ n8_ n9_; (try clear hb); (try clear hb2); (try clear hk); (try clear hi); obtain ⟨hcz172_0, hfz172_0⟩ := blk1_ BK342.out) | ((with_reducible refine gate_callee (f := 10) rfl ?_); refine goesL_ (some 104) rfl rfl Try.func10 (by kernel_rfl) rfl #[.agg #[.slice Ao43 y339.length co43], .int .i64 a2] rfl (by (try simp only [List.map_toArray, List.map_cons, List.map_nil]); first | done | rfl | (simp only [List.length_drop, List.length_take]; rfl)) ?_; (with_reducible refine (plan_Find.calls _ _ y339 a2 t364 t365 t366 _ ?side1 ?side2 A93.out).mono ?_); (case side1 => repeat (first | exact (Kd.N_reads' HO_343a.out).2.2 | (with_reducible refine Kd.C_alloc ?_ _) | (with_reducible refine Kd.C_drewN ?_ _) | (with_reducible refine Kd.C_drew ?_))); (case side2 => exact (Kd.N_reads' HO_343a.out).2.1); rintro e w173 ⟨rfl, hb⟩; refine ⟨_, rfl, ?_⟩; have n0_ := Am (Kd.R_below (by (with_reducible repeat (first | apply Kd.R_alloc | apply Kd.R_drewN | apply Kd.R_drew)); exact HO_8.out) hb); have n1_ := Am (Kd.R_below (by (with_reducible repeat (first | apply Kd.R_alloc | apply Kd.R_drewN | apply Kd.R_drew)); exact HO_9.out) hb); have n2_ := Am (Kd.R_below (by (with_reducible repeat (first | apply Kd.R_alloc | apply Kd.R_drewN | apply Kd.R_drew)); exact HO_10.out) hb); have n3_ := Am (Kd.V_below (by (with_reducible repeat (first | apply Kd.V_alloc | apply Kd.V_drewN | apply Kd.V_drew)); exact HO_328a.out) hb); have n4_ := Am (Kd.V_below (by (with_reducible repeat (first | apply Kd.V_alloc | apply Kd.V_drewN | apply Kd.V_drew)); exact HO_329a.out) hb); have n5_ := Am (Kd.N_below (by (with_reducible repeat (first | apply Kd.N_alloc | apply Kd.N_drewN | apply Kd.N_drew)); exact HO_343a.out) hb); have n6_ := Am (blk_below (g := gb327) (o := .cells #[.slice A0_0 l0_0.length c0_0] 24 (0, 0)) (by (with_reducible repeat (first | refine blk_drewN ?_ _ | refine blk_drew ?_ | refine blk_alloc ?_ _)); exact BK327.out) hb); have n7_ := Am (blk_below (g := gb328) (o := .cells #[.slice A1_0 l1_0.length c1_0] 24 (0, 0)) (by (with_reducible repeat (first | refine blk_drewN ?_ _ | refine blk_drew ?_ | refine blk_alloc ?_ _)); exact BK328.out) hb); have n8_ := Am (blk_below (g := gb342) (o := .cells #[.slice Ao43 y339.length co43] 24 (0, 0)) (by (with_reducible repeat (first | refine blk_drewN ?_ _ | refine blk_drew ?_ | refine blk_alloc ?_ _)); exact BK342.out) hb); have n9_ := Am (below_step (by repeat (first | (with_reducible first | exact HB.out | apply below_alloc | apply pw_below_drewN | apply below_drew1 | refine below_set ?_ GE327.out | refine below_set ?_ GE328.out | refine below_set ?_ GE342.out) | exact HB.out)) hb); clear HO_8; clear HO_9; clear HO_10; clear HO_328a; clear HO_329a; clear HO_343a; clear BK327; clear BK328; clear BK342; clear HB; have HO_8 := n0_; have HO_9 := n1_; have HO_10 := n2_; have HO_328a := n3_; have HO_329a := n4_; have HO_343a := n5_; have BK327 := n6_; have BK328 := n7_; have BK342 := n8_; have HB := n9_; clear n0_ n1_ n2_ n3_ n4_ n5_ n6_ n7_ n8_ n9_; (try clear hb); (try clear hb2); (try clear hk); (try clear hi)))
              go_ret
              exact ⟨by first | rfl | (simp [errW_none, errW_some] <;> rfl) | (simp [*, errW_none, errW_some] <;> rfl), by repeat (first | (with_reducible first | exact HB.out | apply below_alloc | apply pw_below_drewN | apply below_drew1 | refine below_set ?_ GE327.out | refine below_set ?_ GE328.out | refine below_set ?_ GE342.out) | exact HB.out)⟩
     ·rw [if_neg c30] at H
      exact absurd H (by simp)
    ·rw [if_neg c29] at H
     exact absurd H (by simp)

end Go.Proofs.Ytdjkhcmblekeiaa.P
