/- Written by a program of this session, after the kit's print: Lean functions for Go functions, and the proof that the machine comes to their answers. -/
import Derived.Test.YtfnnngoandpgkaaPx0
import Derived.Test.YtfnnngoandpgkaaMga
import Derived.Test.YtfnnngoandpgkaaMge
import Derived.Test.YtfnnngoandpgkaaMgb
namespace Go.Proofs.Ytfnnngoandpgkaa.P
open Go.RowKit Go.Proofs.YtfnnngoandpgkaaW.PrintWords Go.Proofs.YtfnnngoandpgkaaW.PrintLast Go.Proofs.YtfnnngoandpgkaaW.PrintMore
attribute [local go_sem] max2_int min2_int max_two min_two max_three min_three max_four min_four   -- for this text's walks alone
set_option linter.unusedVariables false
set_option linter.unusedSimpArgs false

/-! ### entrepotlaw08_CanonOrder: function 8 -/
mutual
def entrepotlaw08_CanonOrder.j0 : Nat → Bool → ByteArray → Int → Int → Int → Int → Int → List (S46) → List Int → Option (Bool)
 | 0, _, _, _, _, _, _, _, _, _ => none
 | k + 1, x13, x559000, x559001, x559002, x559003, x559004, x559005, x559006, x559007 => if x13 = true then ((entrepotlaw08_shown.f).bind fun t561 => (some t561)) else ((canon_Check.f x559000 x559001 x559002 x559003 x559004 x559005 x559006 x559007).bind fun t562 => (entrepotlaw08_CanonOrder.l0 k t562 0 x559000 x559001 x559002 x559003 x559004 x559005 x559006 x559007))
def entrepotlaw08_CanonOrder.l0 : Nat → List (S43) → Int → ByteArray → Int → Int → Int → Int → Int → List (S46) → List Int → Option (Bool)
 | 0, _, _, _, _, _, _, _, _, _, _ => none
 | k + 1, x3, x4, x559000, x559001, x559002, x559003, x559004, x559005, x559006, x559007 => if x4 < (x3.length : Int) then (if 0 ≤ x4 then (if ((rd_T43 x3 x4).f0) < 1 then (entrepotlaw08_CanonOrder.j2 k x3 x4 (decide (((rd_T43 x3 x4).f0) ≤ 8)) true x559000 x559001 x559002 x559003 x559004 x559005 x559006 x559007 ((rd_T43 x3 x4).f0) ((rd_T43 x3 x4).f1)) else (if ((rd_T43 x3 x4).f0) > 13 then (entrepotlaw08_CanonOrder.j2 k x3 x4 (decide (((rd_T43 x3 x4).f0) ≤ 8)) true x559000 x559001 x559002 x559003 x559004 x559005 x559006 x559007 ((rd_T43 x3 x4).f0) ((rd_T43 x3 x4).f1)) else (if ((rd_T43 x3 x4).f0) ≤ 8 then (if ((rd_T43 x3 x4).f1) = 0 then (if ((rd_T43 x3 x4).f1) < 0 then (entrepotlaw08_CanonOrder.j2 k x3 x4 (decide (((rd_T43 x3 x4).f0) ≤ 8)) true x559000 x559001 x559002 x559003 x559004 x559005 x559006 x559007 ((rd_T43 x3 x4).f0) ((rd_T43 x3 x4).f1)) else (if (((rd_T43 x3 x4).f0) ≤ 8) then (entrepotlaw08_CanonOrder.j2 k x3 x4 (decide (((rd_T43 x3 x4).f0) ≤ 8)) false x559000 x559001 x559002 x559003 x559004 x559005 x559006 x559007 ((rd_T43 x3 x4).f0) ((rd_T43 x3 x4).f1)) else (entrepotlaw08_CanonOrder.j2 k x3 x4 (decide (((rd_T43 x3 x4).f0) ≤ 8)) (decide (((rd_T43 x3 x4).f1) ≥ (x559006.length : Int))) x559000 x559001 x559002 x559003 x559004 x559005 x559006 x559007 ((rd_T43 x3 x4).f0) ((rd_T43 x3 x4).f1)))) else (entrepotlaw08_CanonOrder.j2 k x3 x4 (decide (((rd_T43 x3 x4).f0) ≤ 8)) true x559000 x559001 x559002 x559003 x559004 x559005 x559006 x559007 ((rd_T43 x3 x4).f0) ((rd_T43 x3 x4).f1))) else (if ((rd_T43 x3 x4).f1) < 0 then (entrepotlaw08_CanonOrder.j2 k x3 x4 (decide (((rd_T43 x3 x4).f0) ≤ 8)) true x559000 x559001 x559002 x559003 x559004 x559005 x559006 x559007 ((rd_T43 x3 x4).f0) ((rd_T43 x3 x4).f1)) else (if (((rd_T43 x3 x4).f0) ≤ 8) then (entrepotlaw08_CanonOrder.j2 k x3 x4 (decide (((rd_T43 x3 x4).f0) ≤ 8)) false x559000 x559001 x559002 x559003 x559004 x559005 x559006 x559007 ((rd_T43 x3 x4).f0) ((rd_T43 x3 x4).f1)) else (entrepotlaw08_CanonOrder.j2 k x3 x4 (decide (((rd_T43 x3 x4).f0) ≤ 8)) (decide (((rd_T43 x3 x4).f1) ≥ (x559006.length : Int))) x559000 x559001 x559002 x559003 x559004 x559005 x559006 x559007 ((rd_T43 x3 x4).f0) ((rd_T43 x3 x4).f1))))))) else (none)) else (some true)
def entrepotlaw08_CanonOrder.j2 : Nat → List (S43) → Int → Bool → Bool → ByteArray → Int → Int → Int → Int → Int → List (S46) → List Int → Int → Int → Option (Bool)
 | 0, _, _, _, _, _, _, _, _, _, _, _, _, _, _ => none
 | k + 1, x3, x4, x6, x62, x559000, x559001, x559002, x559003, x559004, x559005, x559006, x559007, x567000, x567001 => if x62 = true then (some false) else (if x4 = 0 then (entrepotlaw08_CanonOrder.l0 k x3 (wrap64 (x4 + 1)) x559000 x559001 x559002 x559003 x559004 x559005 x559006 x559007) else (if 0 ≤ (wrap64 (x4 - 1)) then (if (wrap64 (x4 - 1)) < (x3.length : Int) then (if ((rd_T43 x3 (wrap64 (x4 - 1))).f0) > 8 then (if x6 = true then (some false) else (if ((rd_T43 x3 (wrap64 (x4 - 1))).f1) > x567001 then (some false) else (if ((rd_T43 x3 (wrap64 (x4 - 1))).f1) = x567001 then (if ((rd_T43 x3 (wrap64 (x4 - 1))).f0) ≥ x567000 then (some false) else (entrepotlaw08_CanonOrder.l0 k x3 (wrap64 (x4 + 1)) x559000 x559001 x559002 x559003 x559004 x559005 x559006 x559007)) else (entrepotlaw08_CanonOrder.l0 k x3 (wrap64 (x4 + 1)) x559000 x559001 x559002 x559003 x559004 x559005 x559006 x559007)))) else (if ((rd_T43 x3 (wrap64 (x4 - 1))).f1) = x567001 then (if ((rd_T43 x3 (wrap64 (x4 - 1))).f0) ≥ x567000 then (some false) else (entrepotlaw08_CanonOrder.l0 k x3 (wrap64 (x4 + 1)) x559000 x559001 x559002 x559003 x559004 x559005 x559006 x559007)) else (if x6 = true then (if ((rd_T43 x3 (wrap64 (x4 - 1))).f0) ≥ x567000 then (some false) else (entrepotlaw08_CanonOrder.l0 k x3 (wrap64 (x4 + 1)) x559000 x559001 x559002 x559003 x559004 x559005 x559006 x559007)) else (entrepotlaw08_CanonOrder.l0 k x3 (wrap64 (x4 + 1)) x559000 x559001 x559002 x559003 x559004 x559005 x559006 x559007)))) else (none)) else (none)))
end
def entrepotlaw08_CanonOrder.f (k : Nat) (a0_0 : ByteArray) (a0_1 : Int) (a0_2 : Int) (a0_3 : Int) (a0_4 : Int) (a0_5 : Int) (l0_6 : List (S46)) (l0_7 : List Int) : Option (Bool) := (entrepotlaw08_long.f a0_0 a0_1 a0_2 a0_3 a0_4 a0_5 l0_6 l0_7).bind fun t559 => (if t559 = true then (entrepotlaw08_CanonOrder.j0 k true a0_0 a0_1 a0_2 a0_3 a0_4 a0_5 l0_6 l0_7) else ((entrepotlaw08_shown.f).bind fun t560 => (entrepotlaw08_CanonOrder.j0 k (!t560) a0_0 a0_1 a0_2 a0_3 a0_4 a0_5 l0_6 l0_7)))
theorem entrepotlaw08_CanonOrder.mono_l : ∀ k, (∀ y0 y1 y2 y3 y4 y5 y6 y7 y8, LeO (entrepotlaw08_CanonOrder.j0 k y0 y1 y2 y3 y4 y5 y6 y7 y8) (entrepotlaw08_CanonOrder.j0 (k + 1) y0 y1 y2 y3 y4 y5 y6 y7 y8)) ∧ (∀ y0 y1 y2 y3 y4 y5 y6 y7 y8 y9, LeO (entrepotlaw08_CanonOrder.l0 k y0 y1 y2 y3 y4 y5 y6 y7 y8 y9) (entrepotlaw08_CanonOrder.l0 (k + 1) y0 y1 y2 y3 y4 y5 y6 y7 y8 y9)) ∧ (∀ y0 y1 y2 y3 y4 y5 y6 y7 y8 y9 y10 y11 y12 y13, LeO (entrepotlaw08_CanonOrder.j2 k y0 y1 y2 y3 y4 y5 y6 y7 y8 y9 y10 y11 y12 y13) (entrepotlaw08_CanonOrder.j2 (k + 1) y0 y1 y2 y3 y4 y5 y6 y7 y8 y9 y10 y11 y12 y13))
 | 0 => ⟨fun _ _ _ _ _ _ _ _ _ r h => by simp [entrepotlaw08_CanonOrder.j0] at h, fun _ _ _ _ _ _ _ _ _ _ r h => by simp [entrepotlaw08_CanonOrder.l0] at h, fun _ _ _ _ _ _ _ _ _ _ _ _ _ _ r h => by simp [entrepotlaw08_CanonOrder.j2] at h⟩
 | k + 1 => by
  obtain ⟨ih0, ih1, ih2⟩ := entrepotlaw08_CanonOrder.mono_l k
  refine ⟨?_, ?_, ?_⟩ <;> intros
  all_goals first | unfold entrepotlaw08_CanonOrder.j0 | unfold entrepotlaw08_CanonOrder.l0 | unfold entrepotlaw08_CanonOrder.j2
  all_goals repeat' first
  | (with_reducible exact ih0 _ _ _ _ _ _ _ _ _)
  | (with_reducible exact ih1 _ _ _ _ _ _ _ _ _ _)
  | (with_reducible exact ih2 _ _ _ _ _ _ _ _ _ _ _ _ _ _)
  | (with_reducible exact LeO.refl _)
  | (with_reducible exact LeO.none _)
  | (with_reducible refine LeO.ite ?_ ?_)
  | (with_reducible refine LeO.bind ?_ (fun _ => ?_))
  | exact ih0 _ _ _ _ _ _ _ _ _
  | exact ih1 _ _ _ _ _ _ _ _ _ _
  | exact ih2 _ _ _ _ _ _ _ _ _ _ _ _ _ _
  | exact LeO.none _
  | refine LeO.ite ?_ ?_
  | refine LeO.bind ?_ (fun _ => ?_)
theorem entrepotlaw08_CanonOrder.mono : ∀ a0 a1 a2 a3 a4 a5 a6 a7 k, LeO (entrepotlaw08_CanonOrder.f k a0 a1 a2 a3 a4 a5 a6 a7) (entrepotlaw08_CanonOrder.f (k + 1) a0 a1 a2 a3 a4 a5 a6 a7) := by
 intro a0 a1 a2 a3 a4 a5 a6 a7 k
 obtain ⟨ih0, ih1, ih2⟩ := entrepotlaw08_CanonOrder.mono_l k
 unfold entrepotlaw08_CanonOrder.f
 repeat' first
   | (with_reducible exact ih0 _ _ _ _ _ _ _ _ _)
   | (with_reducible exact ih1 _ _ _ _ _ _ _ _ _ _)
   | (with_reducible exact ih2 _ _ _ _ _ _ _ _ _ _ _ _ _ _)
   | (with_reducible exact LeO.refl _)
   | (with_reducible exact LeO.none _)
   | (with_reducible refine LeO.ite ?_ ?_)
   | (with_reducible refine LeO.bind ?_ (fun _ => ?_))
   | exact ih0 _ _ _ _ _ _ _ _ _
   | exact ih1 _ _ _ _ _ _ _ _ _ _
   | exact ih2 _ _ _ _ _ _ _ _ _ _ _ _ _ _
   | exact LeO.none _
   | refine LeO.ite ?_ ?_
   | refine LeO.bind ?_ (fun _ => ?_)
set_option maxHeartbeats 8000000 in
set_option maxRecDepth 100000 in
theorem entrepotlaw08_CanonOrder.callsT (k : Nat) (a0_0 : ByteArray) (a0_1 : Int) (a0_2 : Int) (a0_3 : Int) (a0_4 : Int) (a0_5 : Int) (A0_6 : Option Addr) (c0_6 : Nat) (l0_6 : List (S46)) (A0_7 : Option Addr) (c0_7 : Nat) (l0_7 : List Int) (r : Bool) (w : World) (hr0_6 : Kd.C k46 w A0_6 l0_6.length l0_6) (hc0_6 : l0_6.length ≤ c0_6) (hr0_7 : Kd.C (Kd.int .i64) w A0_7 l0_7.length l0_7) (hc0_7 : l0_7.length ≤ c0_7) (h : entrepotlaw08_CanonOrder.f k a0_0 a0_1 a0_2 a0_3 a0_4 a0_5 l0_6 l0_7 = some r) (hr_ : Aside0 (r = true)) :
  Calls Try.prog 8 #[.agg #[.string a0_0, .int .i64 a0_1, .int .i64 a0_2, .int .i64 a0_3, .int .i64 a0_4, .int .i64 a0_5, .slice A0_6 l0_6.length c0_6, .slice A0_7 l0_7.length c0_7]] w fun e w' => e = .returned (.bool r) ∧ Below w.heap.size w w' := by
 have hu25 := Try.underlying25
 have hu43 := Try.underlying43
 have HR0_6 := Aside0.mk hr0_6
 have HC0_6 := Aside0.mk hc0_6
 clear hr0_6 hc0_6
 have HR0_7 := Aside0.mk hr0_7
 have HC0_7 := Aside0.mk hc0_7
 clear hr0_7 hc0_7
 have HB := Aside0.mk (Below.refl w.heap.size w)
 have H : ((entrepotlaw08_long.f a0_0 a0_1 a0_2 a0_3 a0_4 a0_5 l0_6 l0_7).bind fun t559 => (if t559 = true then (entrepotlaw08_CanonOrder.j0 k true a0_0 a0_1 a0_2 a0_3 a0_4 a0_5 l0_6 l0_7) else ((entrepotlaw08_shown.f).bind fun t560 => (entrepotlaw08_CanonOrder.j0 k (!t560) a0_0 a0_1 a0_2 a0_3 a0_4 a0_5 l0_6 l0_7)))) = some r := h
 clear h
 have HC2 := Aside0.mk H
 clear H
 go_enter Try.func8, Try.ntmps8
 go_upto_region 1 with (first | ((with_reducible refine gate_dst (N := 1) rfl ?_); (try (refine gate_guard (by rfl) ?_; dsimp only)); refine box_event ?hg (N := 1) ?hd (cs := #[.string a0_0, .int .i64 a0_1, .int .i64 a0_2, .int .i64 a0_3, .int .i64 a0_4, .int .i64 a0_5, .slice A0_6 l0_6.length c0_6, .slice A0_7 l0_7.length c0_7]) (t := 25) ?hr ?_; (case hd => rfl); (case hg => rfl); (case hr => first | (go_simp; done) | (go_simp; rfl)); intro gb558 hg w3 hbox hb; have n0_ := Aside0.mk (below_step (by repeat (first | (with_reducible first | exact HB.out | apply below_alloc | apply pw_below_drewN | apply below_drew1) | exact HB.out)) hb); have n1_ := Aside0.mk (hbox); have n2_ := Aside0.mk ((by rw [hg]; exact (below_size (by repeat (first | (with_reducible first | exact HB.out | apply below_alloc | apply pw_below_drewN | apply below_drew1) | exact HB.out))) : w.heap.size ≤ gb558)); have n3_ := Aside0.mk ((by rw [hg]; exact (below_size (by repeat (first | (with_reducible first | exact HB.out | apply below_alloc | apply pw_below_drewN | apply below_drew1) | exact HB.out))) : w.heap.size ≤ gb558)); clear HB; have HB := n0_; have BK558 := n1_; have GW558 := n2_; have GE558 := n3_; clear n0_ n1_ n2_ n3_; clear hb hbox hg))
 (try simp only [Act.put, List.setIfInBounds_toArray, List.set_cons_zero, List.set_cons_succ])
 go_cut [13] (fun v13 wc => ∃ (kq : Nat) (x13_1 : Bool), v13 = .bool x13_1 ∧ Aside0 (entrepotlaw08_CanonOrder.j0 kq x13_1 a0_0 a0_1 a0_2 a0_3 a0_4 a0_5 l0_6 l0_7 = some r) ∧ Aside0 (kq ≤ k) ∧ Aside0 (wc.heap[gb558]? = some (.cells #[.string a0_0, .int .i64 a0_1, .int .i64 a0_2, .int .i64 a0_3, .int .i64 a0_4, .int .i64 a0_5, (.slice A0_6 l0_6.length c0_6), (.slice A0_7 l0_7.length c0_7)] 25 (0, 0))) ∧ Aside0 (Below w.heap.size w wc))
 case first =>
  have H := HC2.out
  clear HC2
  replace H := Option.bind_eq_some_iff.mp H
  obtain ⟨t559, A40, H⟩ := H
  replace H : (if t559 = true then (entrepotlaw08_CanonOrder.j0 k true a0_0 a0_1 a0_2 a0_3 a0_4 a0_5 l0_6 l0_7) else ((entrepotlaw08_shown.f).bind fun t560 => (entrepotlaw08_CanonOrder.j0 k (!t560) a0_0 a0_1 a0_2 a0_3 a0_4 a0_5 l0_6 l0_7))) = some r := H
  have A4 := Aside0.mk A40
  clear A40
  by_cases c5 : t559 = true
  ·subst c5
   have H1 : (entrepotlaw08_CanonOrder.j0 k true a0_0 a0_1 a0_2 a0_3 a0_4 a0_5 l0_6 l0_7) = some r := by rw [if_pos rfl] at H; exact H
   clear H
   have H := H1
   clear H1
   have H' := Aside0.mk H
   clear H
   obtain ⟨hcz6_0, hcz6_1, hcz6_2, hcz6_3, hcz6_4, hcz6_5, hcz6_6, hcz6_7, hfz6_0, hfz6_1, hfz6_2, hfz6_3, hfz6_4, hfz6_5, hfz6_6, hfz6_7⟩ := blk8_ BK558.out
   go_wp2_with (first | ((with_reducible refine gate_callee (f := 9) rfl ?_); refine goesL_ (some 9) rfl rfl Try.func9 (by kernel_rfl) rfl #[.agg #[.string a0_0, .int .i64 a0_1, .int .i64 a0_2, .int .i64 a0_3, .int .i64 a0_4, .int .i64 a0_5, .slice A0_6 l0_6.length c0_6, .slice A0_7 l0_7.length c0_7]] rfl (by (try simp only [List.map_toArray, List.map_cons, List.map_nil]); first | done | rfl | (simp only [List.length_drop, List.length_take]; rfl)) ?_; (with_reducible refine (entrepotlaw08_long.calls a0_0 a0_1 a0_2 a0_3 a0_4 a0_5 _ _ l0_6 _ _ l0_7 true _ ?side1 ?side2 ?side3 ?side4 A4.out).mono ?_); (case side1 => repeat (first | exact (Kd.C_below HR0_6.out HB.out) | (with_reducible refine Kd.C_alloc ?_ _) | (with_reducible refine Kd.C_drewN ?_ _) | (with_reducible refine Kd.C_drew ?_))); (case side2 => exact HC0_6.out); (case side3 => repeat (first | exact (Kd.C_below HR0_7.out HB.out) | (with_reducible refine Kd.C_alloc ?_ _) | (with_reducible refine Kd.C_drewN ?_ _) | (with_reducible refine Kd.C_drew ?_))); (case side4 => exact HC0_7.out); rintro e w7 ⟨rfl, hb⟩; refine ⟨_, rfl, ?_⟩; have n0_ := Aside0.mk (blk_below (g := gb558) (o := .cells #[.string a0_0, .int .i64 a0_1, .int .i64 a0_2, .int .i64 a0_3, .int .i64 a0_4, .int .i64 a0_5, .slice A0_6 l0_6.length c0_6, .slice A0_7 l0_7.length c0_7] 25 (0, 0)) (by (with_reducible repeat (first | refine blk_drewN ?_ _ | refine blk_drew ?_ | refine blk_alloc ?_ _)); exact BK558.out) hb); have n1_ := Aside0.mk (below_step (by repeat (first | (with_reducible first | exact HB.out | apply below_alloc | apply pw_below_drewN | apply below_drew1 | refine below_set ?_ GE558.out) | exact HB.out)) hb); clear BK558; clear HB; have BK558 := n0_; have HB := n1_; clear n0_ n1_; (try clear hb); (try clear hb2); (try clear hk); (try clear hi)))
   go_meet
   case rel => exact ⟨_, (true), (by first | rfl | (simp; done) | (simp [*]; done)), H', ⟨by first | omega | exact Nat.le_refl _⟩, ⟨by (with_reducible repeat (first | refine blk_drewN ?_ _ | refine blk_drew ?_ | refine blk_alloc ?_ _)); exact BK558.out⟩, ⟨by repeat (first | (with_reducible first | exact HB.out | apply below_alloc | apply pw_below_drewN | apply below_drew1 | refine below_set ?_ GE558.out) | exact HB.out)⟩⟩
  ·replace c5 := Bool.eq_false_iff.mpr c5
   subst c5
   have H1 : ((entrepotlaw08_shown.f).bind fun t560 => (entrepotlaw08_CanonOrder.j0 k (!t560) a0_0 a0_1 a0_2 a0_3 a0_4 a0_5 l0_6 l0_7)) = some r := by rw [if_neg (show ¬ (false = true) by decide)] at H; exact H
   clear H
   have H := H1
   clear H1
   replace H := Option.bind_eq_some_iff.mp H
   obtain ⟨t560, A80, H⟩ := H
   replace H : (entrepotlaw08_CanonOrder.j0 k (!t560) a0_0 a0_1 a0_2 a0_3 a0_4 a0_5 l0_6 l0_7) = some r := H
   have A8 := Aside0.mk A80
   clear A80
   have H' := Aside0.mk H
   clear H
   obtain ⟨hcz9_0, hcz9_1, hcz9_2, hcz9_3, hcz9_4, hcz9_5, hcz9_6, hcz9_7, hfz9_0, hfz9_1, hfz9_2, hfz9_3, hfz9_4, hfz9_5, hfz9_6, hfz9_7⟩ := blk8_ BK558.out
   go_wp2_with (first | ((with_reducible refine gate_callee (f := 9) rfl ?_); refine goesL_ (some 9) rfl rfl Try.func9 (by kernel_rfl) rfl #[.agg #[.string a0_0, .int .i64 a0_1, .int .i64 a0_2, .int .i64 a0_3, .int .i64 a0_4, .int .i64 a0_5, .slice A0_6 l0_6.length c0_6, .slice A0_7 l0_7.length c0_7]] rfl (by (try simp only [List.map_toArray, List.map_cons, List.map_nil]); first | done | rfl | (simp only [List.length_drop, List.length_take]; rfl)) ?_; (with_reducible refine (entrepotlaw08_long.calls a0_0 a0_1 a0_2 a0_3 a0_4 a0_5 _ _ l0_6 _ _ l0_7 false _ ?side1 ?side2 ?side3 ?side4 A4.out).mono ?_); (case side1 => repeat (first | exact (Kd.C_below HR0_6.out HB.out) | (with_reducible refine Kd.C_alloc ?_ _) | (with_reducible refine Kd.C_drewN ?_ _) | (with_reducible refine Kd.C_drew ?_))); (case side2 => exact HC0_6.out); (case side3 => repeat (first | exact (Kd.C_below HR0_7.out HB.out) | (with_reducible refine Kd.C_alloc ?_ _) | (with_reducible refine Kd.C_drewN ?_ _) | (with_reducible refine Kd.C_drew ?_))); (case side4 => exact HC0_7.out); rintro e w10 ⟨rfl, hb⟩; refine ⟨_, rfl, ?_⟩; have n0_ := Aside0.mk (blk_below (g := gb558) (o := .cells #[.string a0_0, .int .i64 a0_1, .int .i64 a0_2, .int .i64 a0_3, .int .i64 a0_4, .int .i64 a0_5, .slice A0_6 l0_6.length c0_6, .slice A0_7 l0_7.length c0_7] 25 (0, 0)) (by (with_reducible repeat (first | refine blk_drewN ?_ _ | refine blk_drew ?_ | refine blk_alloc ?_ _)); exact BK558.out) hb); have n1_ := Aside0.mk (below_step (by repeat (first | (with_reducible first | exact HB.out | apply below_alloc | apply pw_below_drewN | apply below_drew1 | refine below_set ?_ GE558.out) | exact HB.out)) hb); clear BK558; clear HB; have BK558 := n0_; have HB := n1_; clear n0_ n1_; (try clear hb); (try clear hb2); (try clear hk); (try clear hi)) | (go_at_call 10; (with_reducible refine (entrepotlaw08_shown.calls  t560 _ A8.out).mono ?_); rintro e w11 ⟨rfl, hb⟩; have n0_ := Aside0.mk (blk_below (g := gb558) (o := .cells #[.string a0_0, .int .i64 a0_1, .int .i64 a0_2, .int .i64 a0_3, .int .i64 a0_4, .int .i64 a0_5, .slice A0_6 l0_6.length c0_6, .slice A0_7 l0_7.length c0_7] 25 (0, 0)) (by (with_reducible repeat (first | refine blk_drewN ?_ _ | refine blk_drew ?_ | refine blk_alloc ?_ _)); exact BK558.out) hb); have n1_ := Aside0.mk (below_step (by repeat (first | (with_reducible first | exact HB.out | apply below_alloc | apply pw_below_drewN | apply below_drew1 | refine below_set ?_ GE558.out) | exact HB.out)) hb); clear BK558; clear HB; have BK558 := n0_; have HB := n1_; clear n0_ n1_; (try clear hb); (try clear hb2); (try clear hk); (try clear hi)))
   go_meet
   case rel => exact ⟨_, (!t560), (by first | rfl | (simp; done) | (simp [*]; done)), H', ⟨by first | omega | exact Nat.le_refl _⟩, ⟨by (with_reducible repeat (first | refine blk_drewN ?_ _ | refine blk_drew ?_ | refine blk_alloc ?_ _)); exact BK558.out⟩, ⟨by repeat (first | (with_reducible first | exact HB.out | apply below_alloc | apply pw_below_drewN | apply below_drew1 | refine below_set ?_ GE558.out) | exact HB.out)⟩⟩
 case rest =>
  clear HC2
  obtain ⟨kq, x13_1, rfl, HA, HJ1, BK558, HB⟩ := hcut
  cases kq with
  | zero => exact absurd HA.out (by simp [entrepotlaw08_CanonOrder.j0])
  | succ kj1 =>
   have H := HA.out
   clear HA
   simp only [entrepotlaw08_CanonOrder.j0] at H
   by_cases c12 : x13_1 = true
   ·subst c12
    have H1 : ((entrepotlaw08_shown.f).bind fun t561 => (some t561)) = some r := by rw [if_pos rfl] at H; exact H
    clear H
    have H := H1
    clear H1
    replace H := Option.bind_eq_some_iff.mp H
    obtain ⟨t561, A130, H⟩ := H
    replace H : (some t561) = some r := H
    have A13 := Aside0.mk A130
    clear A130
    obtain rfl := Option.some.inj H
    go_wp2_with (first | ((with_reducible refine gate_callee (f := 10) rfl ?_); refine goesL_ (some 14) rfl rfl Try.func10 (by kernel_rfl) rfl #[] rfl (by (try simp only [List.map_toArray, List.map_cons, List.map_nil]); first | done | rfl | (simp only [List.length_drop, List.length_take]; rfl)) ?_; (with_reducible refine (entrepotlaw08_shown.calls  t561 _ A13.out).mono ?_); rintro e w14 ⟨rfl, hb⟩; refine ⟨_, rfl, ?_⟩; have n0_ := Aside0.mk (blk_below (g := gb558) (o := .cells #[.string a0_0, .int .i64 a0_1, .int .i64 a0_2, .int .i64 a0_3, .int .i64 a0_4, .int .i64 a0_5, .slice A0_6 l0_6.length c0_6, .slice A0_7 l0_7.length c0_7] 25 (0, 0)) (by (with_reducible repeat (first | refine blk_drewN ?_ _ | refine blk_drew ?_ | refine blk_alloc ?_ _)); exact BK558.out) hb); have n1_ := Aside0.mk (below_step (by repeat (first | (with_reducible first | exact HB.out | apply below_alloc | apply pw_below_drewN | apply below_drew1 | refine below_set ?_ GE558.out) | exact HB.out)) hb); clear BK558; clear HB; have BK558 := n0_; have HB := n1_; clear n0_ n1_; (try clear hb); (try clear hb2); (try clear hk); (try clear hi)))
    go_ret
    exact ⟨by first | rfl | (simp [errW_none, errW_some] <;> rfl) | (simp [*, errW_none, errW_some] <;> rfl), by repeat (first | (with_reducible first | exact HB.out | apply below_alloc | apply pw_below_drewN | apply below_drew1 | refine below_set ?_ GE558.out) | exact HB.out)⟩
   ·replace c12 := Bool.eq_false_iff.mpr c12
    subst c12
    have H1 : ((canon_Check.f a0_0 a0_1 a0_2 a0_3 a0_4 a0_5 l0_6 l0_7).bind fun t562 => (entrepotlaw08_CanonOrder.l0 kj1 t562 0 a0_0 a0_1 a0_2 a0_3 a0_4 a0_5 l0_6 l0_7)) = some r := by rw [if_neg (show ¬ (false = true) by decide)] at H; exact H
    clear H
    have H := H1
    clear H1
    replace H := Option.bind_eq_some_iff.mp H
    obtain ⟨t562, A150, H⟩ := H
    replace H : (entrepotlaw08_CanonOrder.l0 kj1 t562 0 a0_0 a0_1 a0_2 a0_3 a0_4 a0_5 l0_6 l0_7) = some r := H
    have A15 := Aside0.mk A150
    clear A150
    have H' := Aside0.mk H
    clear H
    obtain ⟨hcz16_0, hcz16_1, hcz16_2, hcz16_3, hcz16_4, hcz16_5, hcz16_6, hcz16_7, hfz16_0, hfz16_1, hfz16_2, hfz16_3, hfz16_4, hfz16_5, hfz16_6, hfz16_7⟩ := blk8_ BK558.out
    go_wp2_with (first | ((with_reducible refine gate_callee (f := 11) rfl ?_); refine goesL_ (some 16) rfl rfl Try.func11 (by kernel_rfl) rfl #[.agg #[.string a0_0, .int .i64 a0_1, .int .i64 a0_2, .int .i64 a0_3, .int .i64 a0_4, .int .i64 a0_5, .slice A0_6 l0_6.length c0_6, .slice A0_7 l0_7.length c0_7]] rfl (by (try simp only [List.map_toArray, List.map_cons, List.map_nil]); first | done | rfl | (simp only [List.length_drop, List.length_take]; rfl)) ?_; (with_reducible refine (canon_Check.calls a0_0 a0_1 a0_2 a0_3 a0_4 a0_5 _ _ l0_6 _ _ l0_7 t562 _ ?side1 ?side2 ?side3 ?side4 A15.out).mono ?_); (case side1 => repeat (first | exact (Kd.C_below HR0_6.out HB.out) | (with_reducible refine Kd.C_alloc ?_ _) | (with_reducible refine Kd.C_drewN ?_ _) | (with_reducible refine Kd.C_drew ?_))); (case side2 => exact HC0_6.out); (case side3 => repeat (first | exact (Kd.C_below HR0_7.out HB.out) | (with_reducible refine Kd.C_alloc ?_ _) | (with_reducible refine Kd.C_drewN ?_ _) | (with_reducible refine Kd.C_drew ?_))); (case side4 => exact HC0_7.out); rintro e w17 ⟨v563, rfl, ho0, hb⟩; refine ⟨_, rfl, ?_⟩; have n0_ := Aside0.mk (Kd.R_lower ho0 (below_size (by repeat (first | (with_reducible first | exact HB.out | apply below_alloc | apply pw_below_drewN | apply below_drew1 | refine below_set ?_ GE558.out) | exact HB.out)))); have n1_ := Aside0.mk (blk_below (g := gb558) (o := .cells #[.string a0_0, .int .i64 a0_1, .int .i64 a0_2, .int .i64 a0_3, .int .i64 a0_4, .int .i64 a0_5, .slice A0_6 l0_6.length c0_6, .slice A0_7 l0_7.length c0_7] 25 (0, 0)) (by (with_reducible repeat (first | refine blk_drewN ?_ _ | refine blk_drew ?_ | refine blk_alloc ?_ _)); exact BK558.out) hb); have n2_ := Aside0.mk (below_step (by repeat (first | (with_reducible first | exact HB.out | apply below_alloc | apply pw_below_drewN | apply below_drew1 | refine below_set ?_ GE558.out) | exact HB.out)) hb); clear BK558; clear HB; have HO564 := n0_; have BK558 := n1_; have HB := n2_; clear n0_ n1_ n2_; (try clear hb); (try clear hb2); (try clear hk); (try clear hi); (try clear ho0)))
    go_loopg [4] kj1 (fun kq v4 w' => ∃ (x4_2 : Int), v4 = .int .i64 x4_2 ∧ Aside0 (entrepotlaw08_CanonOrder.l0 kq t562 x4_2 a0_0 a0_1 a0_2 a0_3 a0_4 a0_5 l0_6 l0_7 = some r) ∧ Aside0 (kq ≤ kj1) ∧ Aside0 (Kd.R k43 43 w' w.heap.size (fun _ => True) v563 t562) ∧ Aside0 (w'.heap[gb558]? = some (.cells #[.string a0_0, .int .i64 a0_1, .int .i64 a0_2, .int .i64 a0_3, .int .i64 a0_4, .int .i64 a0_5, (.slice A0_6 l0_6.length c0_6), (.slice A0_7 l0_7.length c0_7)] 25 (0, 0))) ∧ Aside0 (Below w.heap.size w w'))
    case atStart => exact ⟨(0), (by first | rfl | (simp; done) | (simp [*]; done)), H', ⟨Nat.le_refl _⟩, ⟨by (with_reducible repeat (first | apply Kd.R_alloc | apply Kd.R_drewN | apply Kd.R_drew)); exact HO564.out⟩, ⟨by (with_reducible repeat (first | refine blk_drewN ?_ _ | refine blk_drew ?_ | refine blk_alloc ?_ _)); exact BK558.out⟩, ⟨by repeat (first | (with_reducible first | exact HB.out | apply below_alloc | apply pw_below_drewN | apply below_drew1 | refine below_set ?_ GE558.out) | exact HB.out)⟩⟩
    case round =>
     clear H'
     (try clear c12); (try clear hcz16_0); (try clear hcz16_1); (try clear hcz16_2); (try clear hcz16_3); (try clear hcz16_4); (try clear hcz16_5); (try clear hcz16_6); (try clear hcz16_7); (try clear hfz16_0); (try clear hfz16_1); (try clear hfz16_2); (try clear hfz16_3); (try clear hfz16_4); (try clear hfz16_5); (try clear hfz16_6); (try clear hfz16_7)
     obtain ⟨x4_2, rfl, HA, HK2, HO_3, BK558, HB⟩ := hrel
     cases gk with
     | zero => exact absurd HA.out (by simp [entrepotlaw08_CanonOrder.l0])
     | succ k2 =>
      have H := HA.out
      clear HA
      simp only [entrepotlaw08_CanonOrder.l0] at H
      by_cases c18 : x4_2 < (t562.length : Int)
      ·rw [if_pos c18] at H
       have c18b0 : decide (x4_2 < (t562.length : Int)) = true := decide_eq_true c18
       clear c18
       by_cases c19 : 0 ≤ x4_2
       ·rw [if_pos c19] at H
        have c19b0 : decide (0 ≤ x4_2) = true := decide_eq_true c19
        clear c19
        have HC20 := Aside0.mk H
        clear H
        obtain ⟨Ao21, co21, eo21⟩ := Kd.R_slice HO_3.out
        subst eo21
        have p565 : 0 ≤ (x4_2 : Int) := of_decide_eq_true (by first | (with_reducible assumption) | assumption)
        have q565 : x4_2 < (t562.length : Int) := of_decide_eq_true (by first | (with_reducible assumption) | assumption)
        obtain ⟨ad565, e565, hx565_0, hx565_1⟩ := at_T43 (Kd.R_reads' HO_3.out).2.2 x4_2 p565 q565
        cases e565
        replace p565 := eq_true p565
        replace q565 := eq_true q565
        go_upto_region 9 with (first | ((with_reducible refine gate_dst (N := 5) rfl ?_); (try (refine gate_guard (by rfl) ?_; dsimp only)); refine box_event ?hg (N := 5) ?hd (cs := #[.int .i64 0, .int .i64 0]) (t := 43) ?hr ?_; (case hd => rfl); (case hg => rfl); (case hr => first | (go_simp; done) | (go_simp; rfl)); intro gb566 hg w22 hbox hb; have n0_ := Aside0.mk (Kd.R_below (Kd.R_elderB (by (with_reducible repeat (first | apply Kd.R_alloc | apply Kd.R_drewN | apply Kd.R_drew)); exact HO_3.out) gb566 (Nat.le_of_eq hg.symm)) hb); have n1_ := Aside0.mk (blk_below (g := gb558) (o := .cells #[.string a0_0, .int .i64 a0_1, .int .i64 a0_2, .int .i64 a0_3, .int .i64 a0_4, .int .i64 a0_5, .slice A0_6 l0_6.length c0_6, .slice A0_7 l0_7.length c0_7] 25 (0, 0)) (by (with_reducible repeat (first | refine blk_drewN ?_ _ | refine blk_drew ?_ | refine blk_alloc ?_ _)); exact BK558.out) hb); have n2_ := Aside0.mk (below_step (by repeat (first | (with_reducible first | exact HB.out | apply below_alloc | apply pw_below_drewN | apply below_drew1 | refine below_set ?_ GE558.out) | exact HB.out)) hb); have n3_ := Aside0.mk (hbox); have n4_ := Aside0.mk ((by rw [hg]; exact (below_size (by repeat (first | (with_reducible first | exact HB.out | apply below_alloc | apply pw_below_drewN | apply below_drew1 | refine below_set ?_ GE558.out) | exact HB.out))) : w.heap.size ≤ gb566)); have n5_ := Aside0.mk ((by rw [hg]; exact (below_size (by repeat (first | (with_reducible first | exact HB.out | apply below_alloc | apply pw_below_drewN | apply below_drew1 | refine below_set ?_ GE558.out) | exact HB.out))) : w.heap.size ≤ gb566)); have n6_ := Aside0.mk ((by rw [hg]; exact Nat.ne_of_lt (blk_lt (g := gb558) (o := .cells #[.string a0_0, .int .i64 a0_1, .int .i64 a0_2, .int .i64 a0_3, .int .i64 a0_4, .int .i64 a0_5, .slice A0_6 l0_6.length c0_6, .slice A0_7 l0_7.length c0_7] 25 (0, 0)) (by (with_reducible repeat (first | refine blk_drewN ?_ _ | refine blk_drew ?_ | refine blk_alloc ?_ _)); exact BK558.out)) : gb558 ≠ gb566)); have n7_ := Aside0.mk ((by rw [hg]; exact Nat.ne_of_gt (blk_lt (g := gb558) (o := .cells #[.string a0_0, .int .i64 a0_1, .int .i64 a0_2, .int .i64 a0_3, .int .i64 a0_4, .int .i64 a0_5, .slice A0_6 l0_6.length c0_6, .slice A0_7 l0_7.length c0_7] 25 (0, 0)) (by (with_reducible repeat (first | refine blk_drewN ?_ _ | refine blk_drew ?_ | refine blk_alloc ?_ _)); exact BK558.out)) : gb566 ≠ gb558)); clear HO_3; clear BK558; clear HB; have HO_3 := n0_; have BK558 := n1_; have HB := n2_; have BK566 := n3_; have GW566 := n4_; have GE566 := n5_; have NB558_566 := n6_; have NB566_558 := n7_; clear n0_ n1_ n2_ n3_ n4_ n5_ n6_ n7_; clear hb hbox hg; have hnb23 := NB566_558.out; have hnc23 := NB558_566.out; obtain ⟨hcz24_0, hcz24_1, hfz24_0, hfz24_1⟩ := blk2_ BK566.out))
        (try simp only [Act.put, List.setIfInBounds_toArray, List.set_cons_zero, List.set_cons_succ])
        go_cut [6, 62] (fun v6 v62 wc => ∃ (kq : Nat) (x6_c : Bool) (x62_19 : Bool), v6 = .bool x6_c ∧ v62 = .bool x62_19 ∧ Aside0 (entrepotlaw08_CanonOrder.j2 kq t562 x4_2 x6_c x62_19 a0_0 a0_1 a0_2 a0_3 a0_4 a0_5 l0_6 l0_7 ((rd_T43 t562 x4_2).f0) ((rd_T43 t562 x4_2).f1) = some r) ∧ Aside0 (kq ≤ k2) ∧ Aside0 (Kd.R k43 43 wc w.heap.size (fun k_ => k_ ≠ gb566) (.slice (some ad565) t562.length co21) t562) ∧ Aside0 (wc.heap[gb558]? = some (.cells #[.string a0_0, .int .i64 a0_1, .int .i64 a0_2, .int .i64 a0_3, .int .i64 a0_4, .int .i64 a0_5, (.slice A0_6 l0_6.length c0_6), (.slice A0_7 l0_7.length c0_7)] 25 (0, 0))) ∧ Aside0 (wc.heap[gb566]? = some (.cells #[.int .i64 ((rd_T43 t562 x4_2).f0), .int .i64 ((rd_T43 t562 x4_2).f1)] 43 (0, 0))) ∧ Aside0 (Below w.heap.size w wc))
        case first =>
         have H := HC20.out
         clear HC20
         by_cases c25 : ((rd_T43 t562 x4_2).f0) < 1
         ·rw [if_pos c25] at H
          have c25b0 : decide (((rd_T43 t562 x4_2).f0) < 1) = true := decide_eq_true c25
          clear c25
          (first | rw [c25b0] | (simp only [i64_w, i32_w]; rw [c25b0]) | skip)
          have H' := Aside0.mk H
          clear H
          have hnb26 := NB566_558.out
          have hnc26 := NB558_566.out
          obtain ⟨hcz27_0, hcz27_1, hfz27_0, hfz27_1⟩ := blk2_ BK566.out
          go_wp2
          go_meet
          case rel => exact ⟨_, (decide (((rd_T43 t562 x4_2).f0) ≤ 8)), (true), (by first | rfl | (simp; done) | (simp [*]; done)), (by first | rfl | (simp; done) | (simp [*]; done)), H', ⟨by have := HJ1.out; have := HK2.out; first | omega | exact Nat.le_refl _⟩, ⟨by (with_reducible repeat (first | apply Kd.R_alloc | apply Kd.R_drewN | apply Kd.R_drew)); exact Kd.R_mono (Kd.R_far (p := ⟨gb566, 1, none⟩) (Kd.R_far (p := ⟨gb566, 0, none⟩) (Kd.R_mono HO_3.out (fun k_ hk => (⟨hk, hk.2⟩ : _ ∧ k_ ≠ gb566))) (fun _ hk => hk.2) (.int .i64 ((rd_T43 t562 x4_2).f0))) (fun _ hk => hk.2) (.int .i64 ((rd_T43 t562 x4_2).f1))) (fun _ hk => hk.1.2)⟩, ⟨by (with_reducible repeat (first | refine blk_drewN ?_ _ | refine blk_drew ?_ | refine blk_alloc ?_ _)); refine blk_far ?_ NB558_566.out _; (with_reducible repeat (first | refine blk_drewN ?_ _ | refine blk_drew ?_ | refine blk_alloc ?_ _)); refine blk_far ?_ NB558_566.out _; (with_reducible repeat (first | refine blk_drewN ?_ _ | refine blk_drew ?_ | refine blk_alloc ?_ _)); exact BK558.out⟩, ⟨by (with_reducible repeat (first | refine blk_drewN ?_ _ | refine blk_drew ?_ | refine blk_alloc ?_ _)); refine blk_put (cs := #[.int .i64 ((rd_T43 t562 x4_2).f0), .int .i64 0]) ?_ 1 _ rfl; (with_reducible repeat (first | refine blk_drewN ?_ _ | refine blk_drew ?_ | refine blk_alloc ?_ _)); refine blk_put (cs := #[.int .i64 0, .int .i64 0]) ?_ 0 _ rfl; (with_reducible repeat (first | refine blk_drewN ?_ _ | refine blk_drew ?_ | refine blk_alloc ?_ _)); exact BK566.out⟩, ⟨by repeat (first | (with_reducible first | exact HB.out | apply below_alloc | apply pw_below_drewN | apply below_drew1 | refine below_set ?_ GE558.out | refine below_set ?_ GE566.out) | exact HB.out)⟩⟩
         ·rw [if_neg c25] at H
          have c25b0 : decide (((rd_T43 t562 x4_2).f0) < 1) = false := decide_eq_false c25
          clear c25
          (first | rw [c25b0] | (simp only [i64_w, i32_w]; rw [c25b0]) | skip)
          by_cases c28 : ((rd_T43 t562 x4_2).f0) > 13
          ·rw [if_pos c28] at H
           have c28b0 : decide (13 < ((rd_T43 t562 x4_2).f0)) = true := decide_eq_true c28
           clear c28
           have H' := Aside0.mk H
           clear H
           have hnb29 := NB566_558.out
           have hnc29 := NB558_566.out
           obtain ⟨hcz30_0, hcz30_1, hfz30_0, hfz30_1⟩ := blk2_ BK566.out
           go_wp2
           go_meet
           case rel => exact ⟨_, (decide (((rd_T43 t562 x4_2).f0) ≤ 8)), (true), (by first | rfl | (simp; done) | (simp [*]; done)), (by first | rfl | (simp; done) | (simp [*]; done)), H', ⟨by have := HJ1.out; have := HK2.out; first | omega | exact Nat.le_refl _⟩, ⟨by (with_reducible repeat (first | apply Kd.R_alloc | apply Kd.R_drewN | apply Kd.R_drew)); exact Kd.R_mono (Kd.R_far (p := ⟨gb566, 1, none⟩) (Kd.R_far (p := ⟨gb566, 0, none⟩) (Kd.R_mono HO_3.out (fun k_ hk => (⟨hk, hk.2⟩ : _ ∧ k_ ≠ gb566))) (fun _ hk => hk.2) (.int .i64 ((rd_T43 t562 x4_2).f0))) (fun _ hk => hk.2) (.int .i64 ((rd_T43 t562 x4_2).f1))) (fun _ hk => hk.1.2)⟩, ⟨by (with_reducible repeat (first | refine blk_drewN ?_ _ | refine blk_drew ?_ | refine blk_alloc ?_ _)); refine blk_far ?_ NB558_566.out _; (with_reducible repeat (first | refine blk_drewN ?_ _ | refine blk_drew ?_ | refine blk_alloc ?_ _)); refine blk_far ?_ NB558_566.out _; (with_reducible repeat (first | refine blk_drewN ?_ _ | refine blk_drew ?_ | refine blk_alloc ?_ _)); exact BK558.out⟩, ⟨by (with_reducible repeat (first | refine blk_drewN ?_ _ | refine blk_drew ?_ | refine blk_alloc ?_ _)); refine blk_put (cs := #[.int .i64 ((rd_T43 t562 x4_2).f0), .int .i64 0]) ?_ 1 _ rfl; (with_reducible repeat (first | refine blk_drewN ?_ _ | refine blk_drew ?_ | refine blk_alloc ?_ _)); refine blk_put (cs := #[.int .i64 0, .int .i64 0]) ?_ 0 _ rfl; (with_reducible repeat (first | refine blk_drewN ?_ _ | refine blk_drew ?_ | refine blk_alloc ?_ _)); exact BK566.out⟩, ⟨by repeat (first | (with_reducible first | exact HB.out | apply below_alloc | apply pw_below_drewN | apply below_drew1 | refine below_set ?_ GE558.out | refine below_set ?_ GE566.out) | exact HB.out)⟩⟩
          ·rw [if_neg c28] at H
           have c28b0 : decide (13 < ((rd_T43 t562 x4_2).f0)) = false := decide_eq_false c28
           clear c28
           by_cases c31 : ((rd_T43 t562 x4_2).f0) ≤ 8
           ·rw [if_pos c31] at H
            have c31b0 : decide (((rd_T43 t562 x4_2).f0) ≤ 8) = true := decide_eq_true c31
            clear c31
            by_cases c32 : ((rd_T43 t562 x4_2).f1) = 0
            ·rw [if_pos c32] at H
             have c32b0 : (((rd_T43 t562 x4_2).f1) == 0) = true := beq_iff_eq.mpr c32
             have c32b1 : (((rd_T43 t562 x4_2).f1) != 0) = false := bne_eq_false_iff_eq.mpr c32
             clear c32
             by_cases c33 : ((rd_T43 t562 x4_2).f1) < 0
             ·rw [if_pos c33] at H
              have c33b0 : decide (((rd_T43 t562 x4_2).f1) < 0) = true := decide_eq_true c33
              clear c33
              have H' := Aside0.mk H
              clear H
              have hnb34 := NB566_558.out
              have hnc34 := NB558_566.out
              obtain ⟨hcz35_0, hcz35_1, hfz35_0, hfz35_1⟩ := blk2_ BK566.out
              go_wp2
              go_meet
              case rel => exact ⟨_, (decide (((rd_T43 t562 x4_2).f0) ≤ 8)), (true), (by first | rfl | (simp; done) | (simp [*]; done)), (by first | rfl | (simp; done) | (simp [*]; done)), H', ⟨by have := HJ1.out; have := HK2.out; first | omega | exact Nat.le_refl _⟩, ⟨by (with_reducible repeat (first | apply Kd.R_alloc | apply Kd.R_drewN | apply Kd.R_drew)); exact Kd.R_mono (Kd.R_far (p := ⟨gb566, 1, none⟩) (Kd.R_far (p := ⟨gb566, 0, none⟩) (Kd.R_mono HO_3.out (fun k_ hk => (⟨hk, hk.2⟩ : _ ∧ k_ ≠ gb566))) (fun _ hk => hk.2) (.int .i64 ((rd_T43 t562 x4_2).f0))) (fun _ hk => hk.2) (.int .i64 ((rd_T43 t562 x4_2).f1))) (fun _ hk => hk.1.2)⟩, ⟨by (with_reducible repeat (first | refine blk_drewN ?_ _ | refine blk_drew ?_ | refine blk_alloc ?_ _)); refine blk_far ?_ NB558_566.out _; (with_reducible repeat (first | refine blk_drewN ?_ _ | refine blk_drew ?_ | refine blk_alloc ?_ _)); refine blk_far ?_ NB558_566.out _; (with_reducible repeat (first | refine blk_drewN ?_ _ | refine blk_drew ?_ | refine blk_alloc ?_ _)); exact BK558.out⟩, ⟨by (with_reducible repeat (first | refine blk_drewN ?_ _ | refine blk_drew ?_ | refine blk_alloc ?_ _)); refine blk_put (cs := #[.int .i64 ((rd_T43 t562 x4_2).f0), .int .i64 0]) ?_ 1 _ rfl; (with_reducible repeat (first | refine blk_drewN ?_ _ | refine blk_drew ?_ | refine blk_alloc ?_ _)); refine blk_put (cs := #[.int .i64 0, .int .i64 0]) ?_ 0 _ rfl; (with_reducible repeat (first | refine blk_drewN ?_ _ | refine blk_drew ?_ | refine blk_alloc ?_ _)); exact BK566.out⟩, ⟨by repeat (first | (with_reducible first | exact HB.out | apply below_alloc | apply pw_below_drewN | apply below_drew1 | refine below_set ?_ GE558.out | refine below_set ?_ GE566.out) | exact HB.out)⟩⟩
             ·rw [if_neg c33] at H
              have c33b0 : decide (((rd_T43 t562 x4_2).f1) < 0) = false := decide_eq_false c33
              clear c33
              by_cases c36 : (((rd_T43 t562 x4_2).f0) ≤ 8)
              ·rw [if_pos c36] at H
               have c36b0 : decide (((rd_T43 t562 x4_2).f0) ≤ 8) = true := decide_eq_true c36
               clear c36
               have H' := Aside0.mk H
               clear H
               have hnb37 := NB566_558.out
               have hnc37 := NB558_566.out
               obtain ⟨hcz38_0, hcz38_1, hfz38_0, hfz38_1⟩ := blk2_ BK566.out
               go_wp2
               go_meet
               case rel => exact ⟨_, (decide (((rd_T43 t562 x4_2).f0) ≤ 8)), (false), (by first | rfl | (simp; done) | (simp [*]; done)), (by first | rfl | (simp; done) | (simp [*]; done)), H', ⟨by have := HJ1.out; have := HK2.out; first | omega | exact Nat.le_refl _⟩, ⟨by (with_reducible repeat (first | apply Kd.R_alloc | apply Kd.R_drewN | apply Kd.R_drew)); exact Kd.R_mono (Kd.R_far (p := ⟨gb566, 1, none⟩) (Kd.R_far (p := ⟨gb566, 0, none⟩) (Kd.R_mono HO_3.out (fun k_ hk => (⟨hk, hk.2⟩ : _ ∧ k_ ≠ gb566))) (fun _ hk => hk.2) (.int .i64 ((rd_T43 t562 x4_2).f0))) (fun _ hk => hk.2) (.int .i64 ((rd_T43 t562 x4_2).f1))) (fun _ hk => hk.1.2)⟩, ⟨by (with_reducible repeat (first | refine blk_drewN ?_ _ | refine blk_drew ?_ | refine blk_alloc ?_ _)); refine blk_far ?_ NB558_566.out _; (with_reducible repeat (first | refine blk_drewN ?_ _ | refine blk_drew ?_ | refine blk_alloc ?_ _)); refine blk_far ?_ NB558_566.out _; (with_reducible repeat (first | refine blk_drewN ?_ _ | refine blk_drew ?_ | refine blk_alloc ?_ _)); exact BK558.out⟩, ⟨by (with_reducible repeat (first | refine blk_drewN ?_ _ | refine blk_drew ?_ | refine blk_alloc ?_ _)); refine blk_put (cs := #[.int .i64 ((rd_T43 t562 x4_2).f0), .int .i64 0]) ?_ 1 _ rfl; (with_reducible repeat (first | refine blk_drewN ?_ _ | refine blk_drew ?_ | refine blk_alloc ?_ _)); refine blk_put (cs := #[.int .i64 0, .int .i64 0]) ?_ 0 _ rfl; (with_reducible repeat (first | refine blk_drewN ?_ _ | refine blk_drew ?_ | refine blk_alloc ?_ _)); exact BK566.out⟩, ⟨by repeat (first | (with_reducible first | exact HB.out | apply below_alloc | apply pw_below_drewN | apply below_drew1 | refine below_set ?_ GE558.out | refine below_set ?_ GE566.out) | exact HB.out)⟩⟩
              ·rw [if_neg c36] at H
               have c36b0 : decide (((rd_T43 t562 x4_2).f0) ≤ 8) = false := decide_eq_false c36
               exact absurd (c31b0.symm.trans c36b0) (by decide)
            ·rw [if_neg c32] at H
             have c32b0 : (((rd_T43 t562 x4_2).f1) == 0) = false := beq_eq_false_iff_ne.mpr c32
             have c32b1 : (((rd_T43 t562 x4_2).f1) != 0) = true := bne_iff_ne.mpr c32
             have H' := Aside0.mk H
             clear H
             have hnb42 := NB566_558.out
             have hnc42 := NB558_566.out
             obtain ⟨hcz43_0, hcz43_1, hfz43_0, hfz43_1⟩ := blk2_ BK566.out
             go_wp2
             go_meet
             case rel => exact ⟨_, (decide (((rd_T43 t562 x4_2).f0) ≤ 8)), (true), (by first | rfl | (simp; done) | (simp [*]; done)), (by first | rfl | (simp; done) | (simp [*]; done)), H', ⟨by have := HJ1.out; have := HK2.out; first | omega | exact Nat.le_refl _⟩, ⟨by (with_reducible repeat (first | apply Kd.R_alloc | apply Kd.R_drewN | apply Kd.R_drew)); exact Kd.R_mono (Kd.R_far (p := ⟨gb566, 1, none⟩) (Kd.R_far (p := ⟨gb566, 0, none⟩) (Kd.R_mono HO_3.out (fun k_ hk => (⟨hk, hk.2⟩ : _ ∧ k_ ≠ gb566))) (fun _ hk => hk.2) (.int .i64 ((rd_T43 t562 x4_2).f0))) (fun _ hk => hk.2) (.int .i64 ((rd_T43 t562 x4_2).f1))) (fun _ hk => hk.1.2)⟩, ⟨by (with_reducible repeat (first | refine blk_drewN ?_ _ | refine blk_drew ?_ | refine blk_alloc ?_ _)); refine blk_far ?_ NB558_566.out _; (with_reducible repeat (first | refine blk_drewN ?_ _ | refine blk_drew ?_ | refine blk_alloc ?_ _)); refine blk_far ?_ NB558_566.out _; (with_reducible repeat (first | refine blk_drewN ?_ _ | refine blk_drew ?_ | refine blk_alloc ?_ _)); exact BK558.out⟩, ⟨by (with_reducible repeat (first | refine blk_drewN ?_ _ | refine blk_drew ?_ | refine blk_alloc ?_ _)); refine blk_put (cs := #[.int .i64 ((rd_T43 t562 x4_2).f0), .int .i64 0]) ?_ 1 _ rfl; (with_reducible repeat (first | refine blk_drewN ?_ _ | refine blk_drew ?_ | refine blk_alloc ?_ _)); refine blk_put (cs := #[.int .i64 0, .int .i64 0]) ?_ 0 _ rfl; (with_reducible repeat (first | refine blk_drewN ?_ _ | refine blk_drew ?_ | refine blk_alloc ?_ _)); exact BK566.out⟩, ⟨by repeat (first | (with_reducible first | exact HB.out | apply below_alloc | apply pw_below_drewN | apply below_drew1 | refine below_set ?_ GE558.out | refine below_set ?_ GE566.out) | exact HB.out)⟩⟩
           ·rw [if_neg c31] at H
            have c31b0 : decide (((rd_T43 t562 x4_2).f0) ≤ 8) = false := decide_eq_false c31
            clear c31
            by_cases c44 : ((rd_T43 t562 x4_2).f1) < 0
            ·rw [if_pos c44] at H
             have c44b0 : decide (((rd_T43 t562 x4_2).f1) < 0) = true := decide_eq_true c44
             clear c44
             have H' := Aside0.mk H
             clear H
             have hnb45 := NB566_558.out
             have hnc45 := NB558_566.out
             obtain ⟨hcz46_0, hcz46_1, hfz46_0, hfz46_1⟩ := blk2_ BK566.out
             go_wp2
             go_meet
             case rel => exact ⟨_, (decide (((rd_T43 t562 x4_2).f0) ≤ 8)), (true), (by first | rfl | (simp; done) | (simp [*]; done)), (by first | rfl | (simp; done) | (simp [*]; done)), H', ⟨by have := HJ1.out; have := HK2.out; first | omega | exact Nat.le_refl _⟩, ⟨by (with_reducible repeat (first | apply Kd.R_alloc | apply Kd.R_drewN | apply Kd.R_drew)); exact Kd.R_mono (Kd.R_far (p := ⟨gb566, 1, none⟩) (Kd.R_far (p := ⟨gb566, 0, none⟩) (Kd.R_mono HO_3.out (fun k_ hk => (⟨hk, hk.2⟩ : _ ∧ k_ ≠ gb566))) (fun _ hk => hk.2) (.int .i64 ((rd_T43 t562 x4_2).f0))) (fun _ hk => hk.2) (.int .i64 ((rd_T43 t562 x4_2).f1))) (fun _ hk => hk.1.2)⟩, ⟨by (with_reducible repeat (first | refine blk_drewN ?_ _ | refine blk_drew ?_ | refine blk_alloc ?_ _)); refine blk_far ?_ NB558_566.out _; (with_reducible repeat (first | refine blk_drewN ?_ _ | refine blk_drew ?_ | refine blk_alloc ?_ _)); refine blk_far ?_ NB558_566.out _; (with_reducible repeat (first | refine blk_drewN ?_ _ | refine blk_drew ?_ | refine blk_alloc ?_ _)); exact BK558.out⟩, ⟨by (with_reducible repeat (first | refine blk_drewN ?_ _ | refine blk_drew ?_ | refine blk_alloc ?_ _)); refine blk_put (cs := #[.int .i64 ((rd_T43 t562 x4_2).f0), .int .i64 0]) ?_ 1 _ rfl; (with_reducible repeat (first | refine blk_drewN ?_ _ | refine blk_drew ?_ | refine blk_alloc ?_ _)); refine blk_put (cs := #[.int .i64 0, .int .i64 0]) ?_ 0 _ rfl; (with_reducible repeat (first | refine blk_drewN ?_ _ | refine blk_drew ?_ | refine blk_alloc ?_ _)); exact BK566.out⟩, ⟨by repeat (first | (with_reducible first | exact HB.out | apply below_alloc | apply pw_below_drewN | apply below_drew1 | refine below_set ?_ GE558.out | refine below_set ?_ GE566.out) | exact HB.out)⟩⟩
            ·rw [if_neg c44] at H
             have c44b0 : decide (((rd_T43 t562 x4_2).f1) < 0) = false := decide_eq_false c44
             clear c44
             by_cases c47 : (((rd_T43 t562 x4_2).f0) ≤ 8)
             ·rw [if_pos c47] at H
              have c47b0 : decide (((rd_T43 t562 x4_2).f0) ≤ 8) = true := decide_eq_true c47
              exact absurd (c31b0.symm.trans c47b0) (by decide)
             ·rw [if_neg c47] at H
              have c47b0 : decide (((rd_T43 t562 x4_2).f0) ≤ 8) = false := decide_eq_false c47
              clear c47
              have H' := Aside0.mk H
              clear H
              have hnb50 := NB566_558.out
              have hnc50 := NB558_566.out
              obtain ⟨hcz51_0, hcz51_1, hfz51_0, hfz51_1⟩ := blk2_ BK566.out
              obtain ⟨hcz52_0, hcz52_1, hcz52_2, hcz52_3, hcz52_4, hcz52_5, hcz52_6, hcz52_7, hfz52_0, hfz52_1, hfz52_2, hfz52_3, hfz52_4, hfz52_5, hfz52_6, hfz52_7⟩ := blk8_ BK558.out
              go_wp2
              go_meet
              case rel => exact ⟨_, (decide (((rd_T43 t562 x4_2).f0) ≤ 8)), (decide (((rd_T43 t562 x4_2).f1) ≥ (l0_6.length : Int))), (by first | rfl | (simp; done) | (simp [*]; done)), (by first | rfl | (simp; done) | (simp [*]; done)), H', ⟨by have := HJ1.out; have := HK2.out; first | omega | exact Nat.le_refl _⟩, ⟨by (with_reducible repeat (first | apply Kd.R_alloc | apply Kd.R_drewN | apply Kd.R_drew)); exact Kd.R_mono (Kd.R_far (p := ⟨gb566, 1, none⟩) (Kd.R_far (p := ⟨gb566, 0, none⟩) (Kd.R_mono HO_3.out (fun k_ hk => (⟨hk, hk.2⟩ : _ ∧ k_ ≠ gb566))) (fun _ hk => hk.2) (.int .i64 ((rd_T43 t562 x4_2).f0))) (fun _ hk => hk.2) (.int .i64 ((rd_T43 t562 x4_2).f1))) (fun _ hk => hk.1.2)⟩, ⟨by (with_reducible repeat (first | refine blk_drewN ?_ _ | refine blk_drew ?_ | refine blk_alloc ?_ _)); refine blk_far ?_ NB558_566.out _; (with_reducible repeat (first | refine blk_drewN ?_ _ | refine blk_drew ?_ | refine blk_alloc ?_ _)); refine blk_far ?_ NB558_566.out _; (with_reducible repeat (first | refine blk_drewN ?_ _ | refine blk_drew ?_ | refine blk_alloc ?_ _)); exact BK558.out⟩, ⟨by (with_reducible repeat (first | refine blk_drewN ?_ _ | refine blk_drew ?_ | refine blk_alloc ?_ _)); refine blk_put (cs := #[.int .i64 ((rd_T43 t562 x4_2).f0), .int .i64 0]) ?_ 1 _ rfl; (with_reducible repeat (first | refine blk_drewN ?_ _ | refine blk_drew ?_ | refine blk_alloc ?_ _)); refine blk_put (cs := #[.int .i64 0, .int .i64 0]) ?_ 0 _ rfl; (with_reducible repeat (first | refine blk_drewN ?_ _ | refine blk_drew ?_ | refine blk_alloc ?_ _)); exact BK566.out⟩, ⟨by repeat (first | (with_reducible first | exact HB.out | apply below_alloc | apply pw_below_drewN | apply below_drew1 | refine below_set ?_ GE558.out | refine below_set ?_ GE566.out) | exact HB.out)⟩⟩
        case rest =>
         clear HC20
         (try clear c18); (try clear c18b0); (try clear c19); (try clear c19b0); (try clear hcz24_0); (try clear hcz24_1); (try clear hfz24_0); (try clear hfz24_1); (try clear hx565_0); (try clear hx565_1); (try clear p565); (try clear q565)
         obtain ⟨kq, x6_c, x62_19, rfl, rfl, HA, HJ19, HO_3, BK558, BK566, HB⟩ := hcut
         cases kq with
         | zero => exact absurd HA.out (by simp [entrepotlaw08_CanonOrder.j2])
         | succ kj19 =>
          have H := HA.out
          clear HA
          simp only [entrepotlaw08_CanonOrder.j2] at H
          by_cases c53 : x62_19 = true
          ·subst c53
           have H1 : (some false) = some r := by rw [if_pos rfl] at H; exact H
           clear H
           have H := H1
           clear H1
           exact absurd ((Option.some.inj H).trans hr_.out) (by decide)
          ·replace c53 := Bool.eq_false_iff.mpr c53
           subst c53
           have H1 : (if x4_2 = 0 then (entrepotlaw08_CanonOrder.l0 kj19 t562 (wrap64 (x4_2 + 1)) a0_0 a0_1 a0_2 a0_3 a0_4 a0_5 l0_6 l0_7) else (if 0 ≤ (wrap64 (x4_2 - 1)) then (if (wrap64 (x4_2 - 1)) < (t562.length : Int) then (if ((rd_T43 t562 (wrap64 (x4_2 - 1))).f0) > 8 then (if x6_c = true then (some false) else (if ((rd_T43 t562 (wrap64 (x4_2 - 1))).f1) > ((rd_T43 t562 x4_2).f1) then (some false) else (if ((rd_T43 t562 (wrap64 (x4_2 - 1))).f1) = ((rd_T43 t562 x4_2).f1) then (if ((rd_T43 t562 (wrap64 (x4_2 - 1))).f0) ≥ ((rd_T43 t562 x4_2).f0) then (some false) else (entrepotlaw08_CanonOrder.l0 kj19 t562 (wrap64 (x4_2 + 1)) a0_0 a0_1 a0_2 a0_3 a0_4 a0_5 l0_6 l0_7)) else (entrepotlaw08_CanonOrder.l0 kj19 t562 (wrap64 (x4_2 + 1)) a0_0 a0_1 a0_2 a0_3 a0_4 a0_5 l0_6 l0_7)))) else (if ((rd_T43 t562 (wrap64 (x4_2 - 1))).f1) = ((rd_T43 t562 x4_2).f1) then (if ((rd_T43 t562 (wrap64 (x4_2 - 1))).f0) ≥ ((rd_T43 t562 x4_2).f0) then (some false) else (entrepotlaw08_CanonOrder.l0 kj19 t562 (wrap64 (x4_2 + 1)) a0_0 a0_1 a0_2 a0_3 a0_4 a0_5 l0_6 l0_7)) else (if x6_c = true then (if ((rd_T43 t562 (wrap64 (x4_2 - 1))).f0) ≥ ((rd_T43 t562 x4_2).f0) then (some false) else (entrepotlaw08_CanonOrder.l0 kj19 t562 (wrap64 (x4_2 + 1)) a0_0 a0_1 a0_2 a0_3 a0_4 a0_5 l0_6 l0_7)) else (entrepotlaw08_CanonOrder.l0 kj19 t562 (wrap64 (x4_2 + 1)) a0_0 a0_1 a0_2 a0_3 a0_4 a0_5 l0_6 l0_7)))) else (none)) else (none))) = some r := by rw [if_neg (show ¬ (false = true) by decide)] at H; exact H
           clear H
           have H := H1
           clear H1
           by_cases c54 : x4_2 = 0
           ·rw [if_pos c54] at H
            have c54b0 : (x4_2 == 0) = true := beq_iff_eq.mpr c54
            have c54b1 : (x4_2 != 0) = false := bne_eq_false_iff_eq.mpr c54
            clear c54
            have H' := Aside0.mk H
            clear H
            go_wp2
            go_roundg kj19
            case measure => have := HJ1.out; have := HK2.out; have := HJ19.out; omega
            case rel => exact ⟨(wrap64 (x4_2 + 1)), (by first | rfl | (simp; done) | (simp [*]; done)), H', ⟨by have := HJ1.out; have := HK2.out; have := HJ19.out; omega⟩, ⟨by (with_reducible repeat (first | apply Kd.R_alloc | apply Kd.R_drewN | apply Kd.R_drew)); exact Kd.R_mono HO_3.out (fun _ hk => trivial)⟩, ⟨by (with_reducible repeat (first | refine blk_drewN ?_ _ | refine blk_drew ?_ | refine blk_alloc ?_ _)); exact BK558.out⟩, ⟨by repeat (first | (with_reducible first | exact HB.out | apply below_alloc | apply pw_below_drewN | apply below_drew1 | refine below_set ?_ GE558.out | refine below_set ?_ GE566.out) | exact HB.out)⟩⟩
           ·rw [if_neg c54] at H
            have c54b0 : (x4_2 == 0) = false := beq_eq_false_iff_ne.mpr c54
            have c54b1 : (x4_2 != 0) = true := bne_iff_ne.mpr c54
            obtain ⟨ji55, hji55⟩ : ∃ j_ : Int, (wrap64 (x4_2 - 1)) = j_ := ⟨_, rfl⟩
            replace H : (if 0 ≤ (ji55) then (if (ji55) < (t562.length : Int) then (if ((rd_T43 t562 (ji55)).f0) > 8 then (if x6_c = true then (some false) else (if ((rd_T43 t562 (ji55)).f1) > ((rd_T43 t562 x4_2).f1) then (some false) else (if ((rd_T43 t562 (ji55)).f1) = ((rd_T43 t562 x4_2).f1) then (if ((rd_T43 t562 (ji55)).f0) ≥ ((rd_T43 t562 x4_2).f0) then (some false) else (entrepotlaw08_CanonOrder.l0 kj19 t562 (wrap64 (x4_2 + 1)) a0_0 a0_1 a0_2 a0_3 a0_4 a0_5 l0_6 l0_7)) else (entrepotlaw08_CanonOrder.l0 kj19 t562 (wrap64 (x4_2 + 1)) a0_0 a0_1 a0_2 a0_3 a0_4 a0_5 l0_6 l0_7)))) else (if ((rd_T43 t562 (ji55)).f1) = ((rd_T43 t562 x4_2).f1) then (if ((rd_T43 t562 (ji55)).f0) ≥ ((rd_T43 t562 x4_2).f0) then (some false) else (entrepotlaw08_CanonOrder.l0 kj19 t562 (wrap64 (x4_2 + 1)) a0_0 a0_1 a0_2 a0_3 a0_4 a0_5 l0_6 l0_7)) else (if x6_c = true then (if ((rd_T43 t562 (ji55)).f0) ≥ ((rd_T43 t562 x4_2).f0) then (some false) else (entrepotlaw08_CanonOrder.l0 kj19 t562 (wrap64 (x4_2 + 1)) a0_0 a0_1 a0_2 a0_3 a0_4 a0_5 l0_6 l0_7)) else (entrepotlaw08_CanonOrder.l0 kj19 t562 (wrap64 (x4_2 + 1)) a0_0 a0_1 a0_2 a0_3 a0_4 a0_5 l0_6 l0_7)))) else (none)) else (none)) = some r := by first | (rw [hji55] at H; exact H) | (simp only [hji55] at H ⊢; exact H)
            have hji55w : (IntKind.i64.wrap (x4_2 - 1)) = ji55 := (i64_w _).trans hji55
            by_cases c56 : 0 ≤ (ji55)
            ·rw [if_pos c56] at H
             have c56b0 : decide (0 ≤ (ji55)) = true := decide_eq_true c56
             clear c56
             by_cases c57 : (ji55) < (t562.length : Int)
             ·rw [if_pos c57] at H
              have c57b0 : decide ((ji55) < (t562.length : Int)) = true := decide_eq_true c57
              clear c57
              by_cases c58 : ((rd_T43 t562 (ji55)).f0) > 8
              ·rw [if_pos c58] at H
               have c58b0 : decide (8 < ((rd_T43 t562 (ji55)).f0)) = true := decide_eq_true c58
               clear c58
               by_cases c59 : x6_c = true
               ·rw [if_pos c59] at H
                have c59b0 : x6_c = true := c59
                clear c59
                exact absurd ((Option.some.inj H).trans hr_.out) (by decide)
               ·rw [if_neg c59] at H
                have c59b0 : x6_c = false := by simpa using c59
                clear c59
                by_cases c60 : ((rd_T43 t562 (ji55)).f1) > ((rd_T43 t562 x4_2).f1)
                ·rw [if_pos c60] at H
                 have c60b0 : decide (((rd_T43 t562 x4_2).f1) < ((rd_T43 t562 (ji55)).f1)) = true := decide_eq_true c60
                 clear c60
                 exact absurd ((Option.some.inj H).trans hr_.out) (by decide)
                ·rw [if_neg c60] at H
                 have c60b0 : decide (((rd_T43 t562 x4_2).f1) < ((rd_T43 t562 (ji55)).f1)) = false := decide_eq_false c60
                 clear c60
                 by_cases c61 : ((rd_T43 t562 (ji55)).f1) = ((rd_T43 t562 x4_2).f1)
                 ·rw [if_pos c61] at H
                  have c61b0 : (((rd_T43 t562 (ji55)).f1) == ((rd_T43 t562 x4_2).f1)) = true := beq_iff_eq.mpr c61
                  have c61b1 : (((rd_T43 t562 (ji55)).f1) != ((rd_T43 t562 x4_2).f1)) = false := bne_eq_false_iff_eq.mpr c61
                  clear c61
                  by_cases c62 : ((rd_T43 t562 (ji55)).f0) ≥ ((rd_T43 t562 x4_2).f0)
                  ·rw [if_pos c62] at H
                   have c62b0 : decide (((rd_T43 t562 x4_2).f0) ≤ ((rd_T43 t562 (ji55)).f0)) = true := decide_eq_true c62
                   clear c62
                   exact absurd ((Option.some.inj H).trans hr_.out) (by decide)
                  ·rw [if_neg c62] at H
                   have c62b0 : decide (((rd_T43 t562 x4_2).f0) ≤ ((rd_T43 t562 (ji55)).f0)) = false := decide_eq_false c62
                   clear c62
                   have H' := Aside0.mk H
                   clear H
                   have p567 : 0 ≤ ((ji55) : Int) := of_decide_eq_true (by first | (with_reducible assumption) | assumption)
                   have q567 : (ji55) < (t562.length : Int) := of_decide_eq_true (by first | (with_reducible assumption) | assumption)
                   obtain ⟨ad567, e567, hx567_0, hx567_1⟩ := at_T43 (Kd.R_reads' HO_3.out).2.2 (ji55) p567 q567
                   obtain rfl : ad565 = ad567 := (by injection e567)
                   replace p567 := eq_true p567
                   replace q567 := eq_true q567
                   go_wp2_with (first | ((with_reducible refine gate_dst (N := 7) rfl ?_); (try (refine gate_guard (by rfl) ?_; dsimp only)); refine box_event ?hg (N := 7) ?hd (cs := #[.int .i64 0, .int .i64 0]) (t := 43) ?hr ?_; (case hd => rfl); (case hg => rfl); (case hr => first | (go_simp; done) | (go_simp; rfl)); intro gb568 hg w63 hbox hb; have n0_ := Aside0.mk (Kd.R_below (Kd.R_elderB (by (with_reducible repeat (first | apply Kd.R_alloc | apply Kd.R_drewN | apply Kd.R_drew)); exact HO_3.out) gb568 (Nat.le_of_eq hg.symm)) hb); have n1_ := Aside0.mk (blk_below (g := gb558) (o := .cells #[.string a0_0, .int .i64 a0_1, .int .i64 a0_2, .int .i64 a0_3, .int .i64 a0_4, .int .i64 a0_5, .slice A0_6 l0_6.length c0_6, .slice A0_7 l0_7.length c0_7] 25 (0, 0)) (by (with_reducible repeat (first | refine blk_drewN ?_ _ | refine blk_drew ?_ | refine blk_alloc ?_ _)); exact BK558.out) hb); have n2_ := Aside0.mk (blk_below (g := gb566) (o := .cells #[.int .i64 ((rd_T43 t562 x4_2).f0), .int .i64 ((rd_T43 t562 x4_2).f1)] 43 (0, 0)) (by (with_reducible repeat (first | refine blk_drewN ?_ _ | refine blk_drew ?_ | refine blk_alloc ?_ _)); exact BK566.out) hb); have n3_ := Aside0.mk (below_step (by repeat (first | (with_reducible first | exact HB.out | apply below_alloc | apply pw_below_drewN | apply below_drew1 | refine below_set ?_ GE558.out | refine below_set ?_ GE566.out) | exact HB.out)) hb); have n4_ := Aside0.mk (hbox); have n5_ := Aside0.mk ((by rw [hg]; exact (below_size (by repeat (first | (with_reducible first | exact HB.out | apply below_alloc | apply pw_below_drewN | apply below_drew1 | refine below_set ?_ GE558.out | refine below_set ?_ GE566.out) | exact HB.out))) : w.heap.size ≤ gb568)); have n6_ := Aside0.mk ((by rw [hg]; exact (below_size (by repeat (first | (with_reducible first | exact HB.out | apply below_alloc | apply pw_below_drewN | apply below_drew1 | refine below_set ?_ GE558.out | refine below_set ?_ GE566.out) | exact HB.out))) : w.heap.size ≤ gb568)); have n7_ := Aside0.mk ((by rw [hg]; exact Nat.ne_of_lt (blk_lt (g := gb558) (o := .cells #[.string a0_0, .int .i64 a0_1, .int .i64 a0_2, .int .i64 a0_3, .int .i64 a0_4, .int .i64 a0_5, .slice A0_6 l0_6.length c0_6, .slice A0_7 l0_7.length c0_7] 25 (0, 0)) (by (with_reducible repeat (first | refine blk_drewN ?_ _ | refine blk_drew ?_ | refine blk_alloc ?_ _)); exact BK558.out)) : gb558 ≠ gb568)); have n8_ := Aside0.mk ((by rw [hg]; exact Nat.ne_of_gt (blk_lt (g := gb558) (o := .cells #[.string a0_0, .int .i64 a0_1, .int .i64 a0_2, .int .i64 a0_3, .int .i64 a0_4, .int .i64 a0_5, .slice A0_6 l0_6.length c0_6, .slice A0_7 l0_7.length c0_7] 25 (0, 0)) (by (with_reducible repeat (first | refine blk_drewN ?_ _ | refine blk_drew ?_ | refine blk_alloc ?_ _)); exact BK558.out)) : gb568 ≠ gb558)); have n9_ := Aside0.mk ((by rw [hg]; exact Nat.ne_of_lt (blk_lt (g := gb566) (o := .cells #[.int .i64 ((rd_T43 t562 x4_2).f0), .int .i64 ((rd_T43 t562 x4_2).f1)] 43 (0, 0)) (by (with_reducible repeat (first | refine blk_drewN ?_ _ | refine blk_drew ?_ | refine blk_alloc ?_ _)); exact BK566.out)) : gb566 ≠ gb568)); have n10_ := Aside0.mk ((by rw [hg]; exact Nat.ne_of_gt (blk_lt (g := gb566) (o := .cells #[.int .i64 ((rd_T43 t562 x4_2).f0), .int .i64 ((rd_T43 t562 x4_2).f1)] 43 (0, 0)) (by (with_reducible repeat (first | refine blk_drewN ?_ _ | refine blk_drew ?_ | refine blk_alloc ?_ _)); exact BK566.out)) : gb568 ≠ gb566)); clear HO_3; clear BK558; clear BK566; clear HB; have HO_3 := n0_; have BK558 := n1_; have BK566 := n2_; have HB := n3_; have BK568 := n4_; have GW568 := n5_; have GE568 := n6_; have NB558_568 := n7_; have NB568_558 := n8_; have NB566_568 := n9_; have NB568_566 := n10_; clear n0_ n1_ n2_ n3_ n4_ n5_ n6_ n7_ n8_ n9_ n10_; clear hb hbox hg; have hnb64 := NB568_558.out; have hnc64 := NB558_568.out; have hnb65 := NB568_566.out; have hnc65 := NB566_568.out; obtain ⟨hcz66_0, hcz66_1, hfz66_0, hfz66_1⟩ := blk2_ BK568.out; have hnb67 := NB566_558.out; have hnc67 := NB558_566.out; obtain ⟨hcz68_0, hcz68_1, hfz68_0, hfz68_1⟩ := blk2_ BK566.out))
                   go_roundg kj19
                   case measure => have := HJ1.out; have := HK2.out; have := HJ19.out; omega
                   case rel => exact ⟨(wrap64 (x4_2 + 1)), (by first | rfl | (simp; done) | (simp [*]; done)), H', ⟨by have := HJ1.out; have := HK2.out; have := HJ19.out; omega⟩, ⟨by (with_reducible repeat (first | apply Kd.R_alloc | apply Kd.R_drewN | apply Kd.R_drew)); exact Kd.R_mono (Kd.R_far (p := ⟨gb568, 1, none⟩) (Kd.R_far (p := ⟨gb568, 0, none⟩) (Kd.R_mono HO_3.out (fun k_ hk => (⟨hk, hk.2⟩ : _ ∧ k_ ≠ gb568))) (fun _ hk => hk.2) (.int .i64 ((rd_T43 t562 (ji55)).f0))) (fun _ hk => hk.2) (.int .i64 ((rd_T43 t562 (ji55)).f1))) (fun _ hk => trivial)⟩, ⟨by (with_reducible repeat (first | refine blk_drewN ?_ _ | refine blk_drew ?_ | refine blk_alloc ?_ _)); refine blk_far ?_ NB558_568.out _; (with_reducible repeat (first | refine blk_drewN ?_ _ | refine blk_drew ?_ | refine blk_alloc ?_ _)); refine blk_far ?_ NB558_568.out _; (with_reducible repeat (first | refine blk_drewN ?_ _ | refine blk_drew ?_ | refine blk_alloc ?_ _)); exact BK558.out⟩, ⟨by repeat (first | (with_reducible first | exact HB.out | apply below_alloc | apply pw_below_drewN | apply below_drew1 | refine below_set ?_ GE558.out | refine below_set ?_ GE566.out | refine below_set ?_ GE568.out) | exact HB.out)⟩⟩
                 ·rw [if_neg c61] at H
                  have c61b0 : (((rd_T43 t562 (ji55)).f1) == ((rd_T43 t562 x4_2).f1)) = false := beq_eq_false_iff_ne.mpr c61
                  have c61b1 : (((rd_T43 t562 (ji55)).f1) != ((rd_T43 t562 x4_2).f1)) = true := bne_iff_ne.mpr c61
                  have H' := Aside0.mk H
                  clear H
                  have p567 : 0 ≤ ((ji55) : Int) := of_decide_eq_true (by first | (with_reducible assumption) | assumption)
                  have q567 : (ji55) < (t562.length : Int) := of_decide_eq_true (by first | (with_reducible assumption) | assumption)
                  obtain ⟨ad567, e567, hx567_0, hx567_1⟩ := at_T43 (Kd.R_reads' HO_3.out).2.2 (ji55) p567 q567
                  obtain rfl : ad565 = ad567 := (by injection e567)
                  replace p567 := eq_true p567
                  replace q567 := eq_true q567
                  go_wp2_with (first | ((with_reducible refine gate_dst (N := 7) rfl ?_); (try (refine gate_guard (by rfl) ?_; dsimp only)); refine box_event ?hg (N := 7) ?hd (cs := #[.int .i64 0, .int .i64 0]) (t := 43) ?hr ?_; (case hd => rfl); (case hg => rfl); (case hr => first | (go_simp; done) | (go_simp; rfl)); intro gb568 hg w69 hbox hb; have n0_ := Aside0.mk (Kd.R_below (Kd.R_elderB (by (with_reducible repeat (first | apply Kd.R_alloc | apply Kd.R_drewN | apply Kd.R_drew)); exact HO_3.out) gb568 (Nat.le_of_eq hg.symm)) hb); have n1_ := Aside0.mk (blk_below (g := gb558) (o := .cells #[.string a0_0, .int .i64 a0_1, .int .i64 a0_2, .int .i64 a0_3, .int .i64 a0_4, .int .i64 a0_5, .slice A0_6 l0_6.length c0_6, .slice A0_7 l0_7.length c0_7] 25 (0, 0)) (by (with_reducible repeat (first | refine blk_drewN ?_ _ | refine blk_drew ?_ | refine blk_alloc ?_ _)); exact BK558.out) hb); have n2_ := Aside0.mk (blk_below (g := gb566) (o := .cells #[.int .i64 ((rd_T43 t562 x4_2).f0), .int .i64 ((rd_T43 t562 x4_2).f1)] 43 (0, 0)) (by (with_reducible repeat (first | refine blk_drewN ?_ _ | refine blk_drew ?_ | refine blk_alloc ?_ _)); exact BK566.out) hb); have n3_ := Aside0.mk (below_step (by repeat (first | (with_reducible first | exact HB.out | apply below_alloc | apply pw_below_drewN | apply below_drew1 | refine below_set ?_ GE558.out | refine below_set ?_ GE566.out) | exact HB.out)) hb); have n4_ := Aside0.mk (hbox); have n5_ := Aside0.mk ((by rw [hg]; exact (below_size (by repeat (first | (with_reducible first | exact HB.out | apply below_alloc | apply pw_below_drewN | apply below_drew1 | refine below_set ?_ GE558.out | refine below_set ?_ GE566.out) | exact HB.out))) : w.heap.size ≤ gb568)); have n6_ := Aside0.mk ((by rw [hg]; exact (below_size (by repeat (first | (with_reducible first | exact HB.out | apply below_alloc | apply pw_below_drewN | apply below_drew1 | refine below_set ?_ GE558.out | refine below_set ?_ GE566.out) | exact HB.out))) : w.heap.size ≤ gb568)); have n7_ := Aside0.mk ((by rw [hg]; exact Nat.ne_of_lt (blk_lt (g := gb558) (o := .cells #[.string a0_0, .int .i64 a0_1, .int .i64 a0_2, .int .i64 a0_3, .int .i64 a0_4, .int .i64 a0_5, .slice A0_6 l0_6.length c0_6, .slice A0_7 l0_7.length c0_7] 25 (0, 0)) (by (with_reducible repeat (first | refine blk_drewN ?_ _ | refine blk_drew ?_ | refine blk_alloc ?_ _)); exact BK558.out)) : gb558 ≠ gb568)); have n8_ := Aside0.mk ((by rw [hg]; exact Nat.ne_of_gt (blk_lt (g := gb558) (o := .cells #[.string a0_0, .int .i64 a0_1, .int .i64 a0_2, .int .i64 a0_3, .int .i64 a0_4, .int .i64 a0_5, .slice A0_6 l0_6.length c0_6, .slice A0_7 l0_7.length c0_7] 25 (0, 0)) (by (with_reducible repeat (first | refine blk_drewN ?_ _ | refine blk_drew ?_ | refine blk_alloc ?_ _)); exact BK558.out)) : gb568 ≠ gb558)); have n9_ := Aside0.mk ((by rw [hg]; exact Nat.ne_of_lt (blk_lt (g := gb566) (o := .cells #[.int .i64 ((rd_T43 t562 x4_2).f0), .int .i64 ((rd_T43 t562 x4_2).f1)] 43 (0, 0)) (by (with_reducible repeat (first | refine blk_drewN ?_ _ | refine blk_drew ?_ | refine blk_alloc ?_ _)); exact BK566.out)) : gb566 ≠ gb568)); have n10_ := Aside0.mk ((by rw [hg]; exact Nat.ne_of_gt (blk_lt (g := gb566) (o := .cells #[.int .i64 ((rd_T43 t562 x4_2).f0), .int .i64 ((rd_T43 t562 x4_2).f1)] 43 (0, 0)) (by (with_reducible repeat (first | refine blk_drewN ?_ _ | refine blk_drew ?_ | refine blk_alloc ?_ _)); exact BK566.out)) : gb568 ≠ gb566)); clear HO_3; clear BK558; clear BK566; clear HB; have HO_3 := n0_; have BK558 := n1_; have BK566 := n2_; have HB := n3_; have BK568 := n4_; have GW568 := n5_; have GE568 := n6_; have NB558_568 := n7_; have NB568_558 := n8_; have NB566_568 := n9_; have NB568_566 := n10_; clear n0_ n1_ n2_ n3_ n4_ n5_ n6_ n7_ n8_ n9_ n10_; clear hb hbox hg; have hnb70 := NB568_558.out; have hnc70 := NB558_568.out; have hnb71 := NB568_566.out; have hnc71 := NB566_568.out; obtain ⟨hcz72_0, hcz72_1, hfz72_0, hfz72_1⟩ := blk2_ BK568.out; have hnb73 := NB566_558.out; have hnc73 := NB558_566.out; obtain ⟨hcz74_0, hcz74_1, hfz74_0, hfz74_1⟩ := blk2_ BK566.out))
                  go_roundg kj19
                  case measure => have := HJ1.out; have := HK2.out; have := HJ19.out; omega
                  case rel => exact ⟨(wrap64 (x4_2 + 1)), (by first | rfl | (simp; done) | (simp [*]; done)), H', ⟨by have := HJ1.out; have := HK2.out; have := HJ19.out; omega⟩, ⟨by (with_reducible repeat (first | apply Kd.R_alloc | apply Kd.R_drewN | apply Kd.R_drew)); exact Kd.R_mono (Kd.R_far (p := ⟨gb568, 1, none⟩) (Kd.R_far (p := ⟨gb568, 0, none⟩) (Kd.R_mono HO_3.out (fun k_ hk => (⟨hk, hk.2⟩ : _ ∧ k_ ≠ gb568))) (fun _ hk => hk.2) (.int .i64 ((rd_T43 t562 (ji55)).f0))) (fun _ hk => hk.2) (.int .i64 ((rd_T43 t562 (ji55)).f1))) (fun _ hk => trivial)⟩, ⟨by (with_reducible repeat (first | refine blk_drewN ?_ _ | refine blk_drew ?_ | refine blk_alloc ?_ _)); refine blk_far ?_ NB558_568.out _; (with_reducible repeat (first | refine blk_drewN ?_ _ | refine blk_drew ?_ | refine blk_alloc ?_ _)); refine blk_far ?_ NB558_568.out _; (with_reducible repeat (first | refine blk_drewN ?_ _ | refine blk_drew ?_ | refine blk_alloc ?_ _)); exact BK558.out⟩, ⟨by repeat (first | (with_reducible first | exact HB.out | apply below_alloc | apply pw_below_drewN | apply below_drew1 | refine below_set ?_ GE558.out | refine below_set ?_ GE566.out | refine below_set ?_ GE568.out) | exact HB.out)⟩⟩
              ·rw [if_neg c58] at H
               have c58b0 : decide (8 < ((rd_T43 t562 (ji55)).f0)) = false := decide_eq_false c58
               clear c58
               by_cases c75 : ((rd_T43 t562 (ji55)).f1) = ((rd_T43 t562 x4_2).f1)
               ·rw [if_pos c75] at H
                have c75b0 : (((rd_T43 t562 (ji55)).f1) == ((rd_T43 t562 x4_2).f1)) = true := beq_iff_eq.mpr c75
                have c75b1 : (((rd_T43 t562 (ji55)).f1) != ((rd_T43 t562 x4_2).f1)) = false := bne_eq_false_iff_eq.mpr c75
                clear c75
                by_cases c76 : ((rd_T43 t562 (ji55)).f0) ≥ ((rd_T43 t562 x4_2).f0)
                ·rw [if_pos c76] at H
                 have c76b0 : decide (((rd_T43 t562 x4_2).f0) ≤ ((rd_T43 t562 (ji55)).f0)) = true := decide_eq_true c76
                 clear c76
                 exact absurd ((Option.some.inj H).trans hr_.out) (by decide)
                ·rw [if_neg c76] at H
                 have c76b0 : decide (((rd_T43 t562 x4_2).f0) ≤ ((rd_T43 t562 (ji55)).f0)) = false := decide_eq_false c76
                 clear c76
                 have H' := Aside0.mk H
                 clear H
                 have p567 : 0 ≤ ((ji55) : Int) := of_decide_eq_true (by first | (with_reducible assumption) | assumption)
                 have q567 : (ji55) < (t562.length : Int) := of_decide_eq_true (by first | (with_reducible assumption) | assumption)
                 obtain ⟨ad567, e567, hx567_0, hx567_1⟩ := at_T43 (Kd.R_reads' HO_3.out).2.2 (ji55) p567 q567
                 obtain rfl : ad565 = ad567 := (by injection e567)
                 replace p567 := eq_true p567
                 replace q567 := eq_true q567
                 go_wp2_with (first | ((with_reducible refine gate_dst (N := 7) rfl ?_); (try (refine gate_guard (by rfl) ?_; dsimp only)); refine box_event ?hg (N := 7) ?hd (cs := #[.int .i64 0, .int .i64 0]) (t := 43) ?hr ?_; (case hd => rfl); (case hg => rfl); (case hr => first | (go_simp; done) | (go_simp; rfl)); intro gb568 hg w77 hbox hb; have n0_ := Aside0.mk (Kd.R_below (Kd.R_elderB (by (with_reducible repeat (first | apply Kd.R_alloc | apply Kd.R_drewN | apply Kd.R_drew)); exact HO_3.out) gb568 (Nat.le_of_eq hg.symm)) hb); have n1_ := Aside0.mk (blk_below (g := gb558) (o := .cells #[.string a0_0, .int .i64 a0_1, .int .i64 a0_2, .int .i64 a0_3, .int .i64 a0_4, .int .i64 a0_5, .slice A0_6 l0_6.length c0_6, .slice A0_7 l0_7.length c0_7] 25 (0, 0)) (by (with_reducible repeat (first | refine blk_drewN ?_ _ | refine blk_drew ?_ | refine blk_alloc ?_ _)); exact BK558.out) hb); have n2_ := Aside0.mk (blk_below (g := gb566) (o := .cells #[.int .i64 ((rd_T43 t562 x4_2).f0), .int .i64 ((rd_T43 t562 x4_2).f1)] 43 (0, 0)) (by (with_reducible repeat (first | refine blk_drewN ?_ _ | refine blk_drew ?_ | refine blk_alloc ?_ _)); exact BK566.out) hb); have n3_ := Aside0.mk (below_step (by repeat (first | (with_reducible first | exact HB.out | apply below_alloc | apply pw_below_drewN | apply below_drew1 | refine below_set ?_ GE558.out | refine below_set ?_ GE566.out) | exact HB.out)) hb); have n4_ := Aside0.mk (hbox); have n5_ := Aside0.mk ((by rw [hg]; exact (below_size (by repeat (first | (with_reducible first | exact HB.out | apply below_alloc | apply pw_below_drewN | apply below_drew1 | refine below_set ?_ GE558.out | refine below_set ?_ GE566.out) | exact HB.out))) : w.heap.size ≤ gb568)); have n6_ := Aside0.mk ((by rw [hg]; exact (below_size (by repeat (first | (with_reducible first | exact HB.out | apply below_alloc | apply pw_below_drewN | apply below_drew1 | refine below_set ?_ GE558.out | refine below_set ?_ GE566.out) | exact HB.out))) : w.heap.size ≤ gb568)); have n7_ := Aside0.mk ((by rw [hg]; exact Nat.ne_of_lt (blk_lt (g := gb558) (o := .cells #[.string a0_0, .int .i64 a0_1, .int .i64 a0_2, .int .i64 a0_3, .int .i64 a0_4, .int .i64 a0_5, .slice A0_6 l0_6.length c0_6, .slice A0_7 l0_7.length c0_7] 25 (0, 0)) (by (with_reducible repeat (first | refine blk_drewN ?_ _ | refine blk_drew ?_ | refine blk_alloc ?_ _)); exact BK558.out)) : gb558 ≠ gb568)); have n8_ := Aside0.mk ((by rw [hg]; exact Nat.ne_of_gt (blk_lt (g := gb558) (o := .cells #[.string a0_0, .int .i64 a0_1, .int .i64 a0_2, .int .i64 a0_3, .int .i64 a0_4, .int .i64 a0_5, .slice A0_6 l0_6.length c0_6, .slice A0_7 l0_7.length c0_7] 25 (0, 0)) (by (with_reducible repeat (first | refine blk_drewN ?_ _ | refine blk_drew ?_ | refine blk_alloc ?_ _)); exact BK558.out)) : gb568 ≠ gb558)); have n9_ := Aside0.mk ((by rw [hg]; exact Nat.ne_of_lt (blk_lt (g := gb566) (o := .cells #[.int .i64 ((rd_T43 t562 x4_2).f0), .int .i64 ((rd_T43 t562 x4_2).f1)] 43 (0, 0)) (by (with_reducible repeat (first | refine blk_drewN ?_ _ | refine blk_drew ?_ | refine blk_alloc ?_ _)); exact BK566.out)) : gb566 ≠ gb568)); have n10_ := Aside0.mk ((by rw [hg]; exact Nat.ne_of_gt (blk_lt (g := gb566) (o := .cells #[.int .i64 ((rd_T43 t562 x4_2).f0), .int .i64 ((rd_T43 t562 x4_2).f1)] 43 (0, 0)) (by (with_reducible repeat (first | refine blk_drewN ?_ _ | refine blk_drew ?_ | refine blk_alloc ?_ _)); exact BK566.out)) : gb568 ≠ gb566)); clear HO_3; clear BK558; clear BK566; clear HB; have HO_3 := n0_; have BK558 := n1_; have BK566 := n2_; have HB := n3_; have BK568 := n4_; have GW568 := n5_; have GE568 := n6_; have NB558_568 := n7_; have NB568_558 := n8_; have NB566_568 := n9_; have NB568_566 := n10_; clear n0_ n1_ n2_ n3_ n4_ n5_ n6_ n7_ n8_ n9_ n10_; clear hb hbox hg; have hnb78 := NB568_558.out; have hnc78 := NB558_568.out; have hnb79 := NB568_566.out; have hnc79 := NB566_568.out; obtain ⟨hcz80_0, hcz80_1, hfz80_0, hfz80_1⟩ := blk2_ BK568.out; have hnb81 := NB566_558.out; have hnc81 := NB558_566.out; obtain ⟨hcz82_0, hcz82_1, hfz82_0, hfz82_1⟩ := blk2_ BK566.out))
                 go_roundg kj19
                 case measure => have := HJ1.out; have := HK2.out; have := HJ19.out; omega
                 case rel => exact ⟨(wrap64 (x4_2 + 1)), (by first | rfl | (simp; done) | (simp [*]; done)), H', ⟨by have := HJ1.out; have := HK2.out; have := HJ19.out; omega⟩, ⟨by (with_reducible repeat (first | apply Kd.R_alloc | apply Kd.R_drewN | apply Kd.R_drew)); exact Kd.R_mono (Kd.R_far (p := ⟨gb568, 1, none⟩) (Kd.R_far (p := ⟨gb568, 0, none⟩) (Kd.R_mono HO_3.out (fun k_ hk => (⟨hk, hk.2⟩ : _ ∧ k_ ≠ gb568))) (fun _ hk => hk.2) (.int .i64 ((rd_T43 t562 (ji55)).f0))) (fun _ hk => hk.2) (.int .i64 ((rd_T43 t562 (ji55)).f1))) (fun _ hk => trivial)⟩, ⟨by (with_reducible repeat (first | refine blk_drewN ?_ _ | refine blk_drew ?_ | refine blk_alloc ?_ _)); refine blk_far ?_ NB558_568.out _; (with_reducible repeat (first | refine blk_drewN ?_ _ | refine blk_drew ?_ | refine blk_alloc ?_ _)); refine blk_far ?_ NB558_568.out _; (with_reducible repeat (first | refine blk_drewN ?_ _ | refine blk_drew ?_ | refine blk_alloc ?_ _)); exact BK558.out⟩, ⟨by repeat (first | (with_reducible first | exact HB.out | apply below_alloc | apply pw_below_drewN | apply below_drew1 | refine below_set ?_ GE558.out | refine below_set ?_ GE566.out | refine below_set ?_ GE568.out) | exact HB.out)⟩⟩
               ·rw [if_neg c75] at H
                have c75b0 : (((rd_T43 t562 (ji55)).f1) == ((rd_T43 t562 x4_2).f1)) = false := beq_eq_false_iff_ne.mpr c75
                have c75b1 : (((rd_T43 t562 (ji55)).f1) != ((rd_T43 t562 x4_2).f1)) = true := bne_iff_ne.mpr c75
                by_cases c83 : x6_c = true
                ·rw [if_pos c83] at H
                 have c83b0 : x6_c = true := c83
                 clear c83
                 by_cases c84 : ((rd_T43 t562 (ji55)).f0) ≥ ((rd_T43 t562 x4_2).f0)
                 ·rw [if_pos c84] at H
                  have c84b0 : decide (((rd_T43 t562 x4_2).f0) ≤ ((rd_T43 t562 (ji55)).f0)) = true := decide_eq_true c84
                  clear c84
                  exact absurd ((Option.some.inj H).trans hr_.out) (by decide)
                 ·rw [if_neg c84] at H
                  have c84b0 : decide (((rd_T43 t562 x4_2).f0) ≤ ((rd_T43 t562 (ji55)).f0)) = false := decide_eq_false c84
                  clear c84
                  have H' := Aside0.mk H
                  clear H
                  have p567 : 0 ≤ ((ji55) : Int) := of_decide_eq_true (by first | (with_reducible assumption) | assumption)
                  have q567 : (ji55) < (t562.length : Int) := of_decide_eq_true (by first | (with_reducible assumption) | assumption)
                  obtain ⟨ad567, e567, hx567_0, hx567_1⟩ := at_T43 (Kd.R_reads' HO_3.out).2.2 (ji55) p567 q567
                  obtain rfl : ad565 = ad567 := (by injection e567)
                  replace p567 := eq_true p567
                  replace q567 := eq_true q567
                  go_wp2_with (first | ((with_reducible refine gate_dst (N := 7) rfl ?_); (try (refine gate_guard (by rfl) ?_; dsimp only)); refine box_event ?hg (N := 7) ?hd (cs := #[.int .i64 0, .int .i64 0]) (t := 43) ?hr ?_; (case hd => rfl); (case hg => rfl); (case hr => first | (go_simp; done) | (go_simp; rfl)); intro gb568 hg w85 hbox hb; have n0_ := Aside0.mk (Kd.R_below (Kd.R_elderB (by (with_reducible repeat (first | apply Kd.R_alloc | apply Kd.R_drewN | apply Kd.R_drew)); exact HO_3.out) gb568 (Nat.le_of_eq hg.symm)) hb); have n1_ := Aside0.mk (blk_below (g := gb558) (o := .cells #[.string a0_0, .int .i64 a0_1, .int .i64 a0_2, .int .i64 a0_3, .int .i64 a0_4, .int .i64 a0_5, .slice A0_6 l0_6.length c0_6, .slice A0_7 l0_7.length c0_7] 25 (0, 0)) (by (with_reducible repeat (first | refine blk_drewN ?_ _ | refine blk_drew ?_ | refine blk_alloc ?_ _)); exact BK558.out) hb); have n2_ := Aside0.mk (blk_below (g := gb566) (o := .cells #[.int .i64 ((rd_T43 t562 x4_2).f0), .int .i64 ((rd_T43 t562 x4_2).f1)] 43 (0, 0)) (by (with_reducible repeat (first | refine blk_drewN ?_ _ | refine blk_drew ?_ | refine blk_alloc ?_ _)); exact BK566.out) hb); have n3_ := Aside0.mk (below_step (by repeat (first | (with_reducible first | exact HB.out | apply below_alloc | apply pw_below_drewN | apply below_drew1 | refine below_set ?_ GE558.out | refine below_set ?_ GE566.out) | exact HB.out)) hb); have n4_ := Aside0.mk (hbox); have n5_ := Aside0.mk ((by rw [hg]; exact (below_size (by repeat (first | (with_reducible first | exact HB.out | apply below_alloc | apply pw_below_drewN | apply below_drew1 | refine below_set ?_ GE558.out | refine below_set ?_ GE566.out) | exact HB.out))) : w.heap.size ≤ gb568)); have n6_ := Aside0.mk ((by rw [hg]; exact (below_size (by repeat (first | (with_reducible first | exact HB.out | apply below_alloc | apply pw_below_drewN | apply below_drew1 | refine below_set ?_ GE558.out | refine below_set ?_ GE566.out) | exact HB.out))) : w.heap.size ≤ gb568)); have n7_ := Aside0.mk ((by rw [hg]; exact Nat.ne_of_lt (blk_lt (g := gb558) (o := .cells #[.string a0_0, .int .i64 a0_1, .int .i64 a0_2, .int .i64 a0_3, .int .i64 a0_4, .int .i64 a0_5, .slice A0_6 l0_6.length c0_6, .slice A0_7 l0_7.length c0_7] 25 (0, 0)) (by (with_reducible repeat (first | refine blk_drewN ?_ _ | refine blk_drew ?_ | refine blk_alloc ?_ _)); exact BK558.out)) : gb558 ≠ gb568)); have n8_ := Aside0.mk ((by rw [hg]; exact Nat.ne_of_gt (blk_lt (g := gb558) (o := .cells #[.string a0_0, .int .i64 a0_1, .int .i64 a0_2, .int .i64 a0_3, .int .i64 a0_4, .int .i64 a0_5, .slice A0_6 l0_6.length c0_6, .slice A0_7 l0_7.length c0_7] 25 (0, 0)) (by (with_reducible repeat (first | refine blk_drewN ?_ _ | refine blk_drew ?_ | refine blk_alloc ?_ _)); exact BK558.out)) : gb568 ≠ gb558)); have n9_ := Aside0.mk ((by rw [hg]; exact Nat.ne_of_lt (blk_lt (g := gb566) (o := .cells #[.int .i64 ((rd_T43 t562 x4_2).f0), .int .i64 ((rd_T43 t562 x4_2).f1)] 43 (0, 0)) (by (with_reducible repeat (first | refine blk_drewN ?_ _ | refine blk_drew ?_ | refine blk_alloc ?_ _)); exact BK566.out)) : gb566 ≠ gb568)); have n10_ := Aside0.mk ((by rw [hg]; exact Nat.ne_of_gt (blk_lt (g := gb566) (o := .cells #[.int .i64 ((rd_T43 t562 x4_2).f0), .int .i64 ((rd_T43 t562 x4_2).f1)] 43 (0, 0)) (by (with_reducible repeat (first | refine blk_drewN ?_ _ | refine blk_drew ?_ | refine blk_alloc ?_ _)); exact BK566.out)) : gb568 ≠ gb566)); clear HO_3; clear BK558; clear BK566; clear HB; have HO_3 := n0_; have BK558 := n1_; have BK566 := n2_; have HB := n3_; have BK568 := n4_; have GW568 := n5_; have GE568 := n6_; have NB558_568 := n7_; have NB568_558 := n8_; have NB566_568 := n9_; have NB568_566 := n10_; clear n0_ n1_ n2_ n3_ n4_ n5_ n6_ n7_ n8_ n9_ n10_; clear hb hbox hg; have hnb86 := NB568_558.out; have hnc86 := NB558_568.out; have hnb87 := NB568_566.out; have hnc87 := NB566_568.out; obtain ⟨hcz88_0, hcz88_1, hfz88_0, hfz88_1⟩ := blk2_ BK568.out; have hnb89 := NB566_558.out; have hnc89 := NB558_566.out; obtain ⟨hcz90_0, hcz90_1, hfz90_0, hfz90_1⟩ := blk2_ BK566.out))
                  go_roundg kj19
                  case measure => have := HJ1.out; have := HK2.out; have := HJ19.out; omega
                  case rel => exact ⟨(wrap64 (x4_2 + 1)), (by first | rfl | (simp; done) | (simp [*]; done)), H', ⟨by have := HJ1.out; have := HK2.out; have := HJ19.out; omega⟩, ⟨by (with_reducible repeat (first | apply Kd.R_alloc | apply Kd.R_drewN | apply Kd.R_drew)); exact Kd.R_mono (Kd.R_far (p := ⟨gb568, 1, none⟩) (Kd.R_far (p := ⟨gb568, 0, none⟩) (Kd.R_mono HO_3.out (fun k_ hk => (⟨hk, hk.2⟩ : _ ∧ k_ ≠ gb568))) (fun _ hk => hk.2) (.int .i64 ((rd_T43 t562 (ji55)).f0))) (fun _ hk => hk.2) (.int .i64 ((rd_T43 t562 (ji55)).f1))) (fun _ hk => trivial)⟩, ⟨by (with_reducible repeat (first | refine blk_drewN ?_ _ | refine blk_drew ?_ | refine blk_alloc ?_ _)); refine blk_far ?_ NB558_568.out _; (with_reducible repeat (first | refine blk_drewN ?_ _ | refine blk_drew ?_ | refine blk_alloc ?_ _)); refine blk_far ?_ NB558_568.out _; (with_reducible repeat (first | refine blk_drewN ?_ _ | refine blk_drew ?_ | refine blk_alloc ?_ _)); exact BK558.out⟩, ⟨by repeat (first | (with_reducible first | exact HB.out | apply below_alloc | apply pw_below_drewN | apply below_drew1 | refine below_set ?_ GE558.out | refine below_set ?_ GE566.out | refine below_set ?_ GE568.out) | exact HB.out)⟩⟩
                ·rw [if_neg c83] at H
                 have c83b0 : x6_c = false := by simpa using c83
                 clear c83
                 have H' := Aside0.mk H
                 clear H
                 have p567 : 0 ≤ ((ji55) : Int) := of_decide_eq_true (by first | (with_reducible assumption) | assumption)
                 have q567 : (ji55) < (t562.length : Int) := of_decide_eq_true (by first | (with_reducible assumption) | assumption)
                 obtain ⟨ad567, e567, hx567_0, hx567_1⟩ := at_T43 (Kd.R_reads' HO_3.out).2.2 (ji55) p567 q567
                 obtain rfl : ad565 = ad567 := (by injection e567)
                 replace p567 := eq_true p567
                 replace q567 := eq_true q567
                 go_wp2_with (first | ((with_reducible refine gate_dst (N := 7) rfl ?_); (try (refine gate_guard (by rfl) ?_; dsimp only)); refine box_event ?hg (N := 7) ?hd (cs := #[.int .i64 0, .int .i64 0]) (t := 43) ?hr ?_; (case hd => rfl); (case hg => rfl); (case hr => first | (go_simp; done) | (go_simp; rfl)); intro gb568 hg w91 hbox hb; have n0_ := Aside0.mk (Kd.R_below (Kd.R_elderB (by (with_reducible repeat (first | apply Kd.R_alloc | apply Kd.R_drewN | apply Kd.R_drew)); exact HO_3.out) gb568 (Nat.le_of_eq hg.symm)) hb); have n1_ := Aside0.mk (blk_below (g := gb558) (o := .cells #[.string a0_0, .int .i64 a0_1, .int .i64 a0_2, .int .i64 a0_3, .int .i64 a0_4, .int .i64 a0_5, .slice A0_6 l0_6.length c0_6, .slice A0_7 l0_7.length c0_7] 25 (0, 0)) (by (with_reducible repeat (first | refine blk_drewN ?_ _ | refine blk_drew ?_ | refine blk_alloc ?_ _)); exact BK558.out) hb); have n2_ := Aside0.mk (blk_below (g := gb566) (o := .cells #[.int .i64 ((rd_T43 t562 x4_2).f0), .int .i64 ((rd_T43 t562 x4_2).f1)] 43 (0, 0)) (by (with_reducible repeat (first | refine blk_drewN ?_ _ | refine blk_drew ?_ | refine blk_alloc ?_ _)); exact BK566.out) hb); have n3_ := Aside0.mk (below_step (by repeat (first | (with_reducible first | exact HB.out | apply below_alloc | apply pw_below_drewN | apply below_drew1 | refine below_set ?_ GE558.out | refine below_set ?_ GE566.out) | exact HB.out)) hb); have n4_ := Aside0.mk (hbox); have n5_ := Aside0.mk ((by rw [hg]; exact (below_size (by repeat (first | (with_reducible first | exact HB.out | apply below_alloc | apply pw_below_drewN | apply below_drew1 | refine below_set ?_ GE558.out | refine below_set ?_ GE566.out) | exact HB.out))) : w.heap.size ≤ gb568)); have n6_ := Aside0.mk ((by rw [hg]; exact (below_size (by repeat (first | (with_reducible first | exact HB.out | apply below_alloc | apply pw_below_drewN | apply below_drew1 | refine below_set ?_ GE558.out | refine below_set ?_ GE566.out) | exact HB.out))) : w.heap.size ≤ gb568)); have n7_ := Aside0.mk ((by rw [hg]; exact Nat.ne_of_lt (blk_lt (g := gb558) (o := .cells #[.string a0_0, .int .i64 a0_1, .int .i64 a0_2, .int .i64 a0_3, .int .i64 a0_4, .int .i64 a0_5, .slice A0_6 l0_6.length c0_6, .slice A0_7 l0_7.length c0_7] 25 (0, 0)) (by (with_reducible repeat (first | refine blk_drewN ?_ _ | refine blk_drew ?_ | refine blk_alloc ?_ _)); exact BK558.out)) : gb558 ≠ gb568)); have n8_ := Aside0.mk ((by rw [hg]; exact Nat.ne_of_gt (blk_lt (g := gb558) (o := .cells #[.string a0_0, .int .i64 a0_1, .int .i64 a0_2, .int .i64 a0_3, .int .i64 a0_4, .int .i64 a0_5, .slice A0_6 l0_6.length c0_6, .slice A0_7 l0_7.length c0_7] 25 (0, 0)) (by (with_reducible repeat (first | refine blk_drewN ?_ _ | refine blk_drew ?_ | refine blk_alloc ?_ _)); exact BK558.out)) : gb568 ≠ gb558)); have n9_ := Aside0.mk ((by rw [hg]; exact Nat.ne_of_lt (blk_lt (g := gb566) (o := .cells #[.int .i64 ((rd_T43 t562 x4_2).f0), .int .i64 ((rd_T43 t562 x4_2).f1)] 43 (0, 0)) (by (with_reducible repeat (first | refine blk_drewN ?_ _ | refine blk_drew ?_ | refine blk_alloc ?_ _)); exact BK566.out)) : gb566 ≠ gb568)); have n10_ := Aside0.mk ((by rw [hg]; exact Nat.ne_of_gt (blk_lt (g := gb566) (o := .cells #[.int .i64 ((rd_T43 t562 x4_2).f0), .int .i64 ((rd_T43 t562 x4_2).f1)] 43 (0, 0)) (by (with_reducible repeat (first | refine blk_drewN ?_ _ | refine blk_drew ?_ | refine blk_alloc ?_ _)); exact BK566.out)) : gb568 ≠ gb566)); clear HO_3; clear BK558; clear BK566; clear HB; have HO_3 := n0_; have BK558 := n1_; have BK566 := n2_; have HB := n3_; have BK568 := n4_; have GW568 := n5_; have GE568 := n6_; have NB558_568 := n7_; have NB568_558 := n8_; have NB566_568 := n9_; have NB568_566 := n10_; clear n0_ n1_ n2_ n3_ n4_ n5_ n6_ n7_ n8_ n9_ n10_; clear hb hbox hg; have hnb92 := NB568_558.out; have hnc92 := NB558_568.out; have hnb93 := NB568_566.out; have hnc93 := NB566_568.out; obtain ⟨hcz94_0, hcz94_1, hfz94_0, hfz94_1⟩ := blk2_ BK568.out; have hnb95 := NB566_558.out; have hnc95 := NB558_566.out; obtain ⟨hcz96_0, hcz96_1, hfz96_0, hfz96_1⟩ := blk2_ BK566.out))
                 go_roundg kj19
                 case measure => have := HJ1.out; have := HK2.out; have := HJ19.out; omega
                 case rel => exact ⟨(wrap64 (x4_2 + 1)), (by first | rfl | (simp; done) | (simp [*]; done)), H', ⟨by have := HJ1.out; have := HK2.out; have := HJ19.out; omega⟩, ⟨by (with_reducible repeat (first | apply Kd.R_alloc | apply Kd.R_drewN | apply Kd.R_drew)); exact Kd.R_mono (Kd.R_far (p := ⟨gb568, 1, none⟩) (Kd.R_far (p := ⟨gb568, 0, none⟩) (Kd.R_mono HO_3.out (fun k_ hk => (⟨hk, hk.2⟩ : _ ∧ k_ ≠ gb568))) (fun _ hk => hk.2) (.int .i64 ((rd_T43 t562 (ji55)).f0))) (fun _ hk => hk.2) (.int .i64 ((rd_T43 t562 (ji55)).f1))) (fun _ hk => trivial)⟩, ⟨by (with_reducible repeat (first | refine blk_drewN ?_ _ | refine blk_drew ?_ | refine blk_alloc ?_ _)); refine blk_far ?_ NB558_568.out _; (with_reducible repeat (first | refine blk_drewN ?_ _ | refine blk_drew ?_ | refine blk_alloc ?_ _)); refine blk_far ?_ NB558_568.out _; (with_reducible repeat (first | refine blk_drewN ?_ _ | refine blk_drew ?_ | refine blk_alloc ?_ _)); exact BK558.out⟩, ⟨by repeat (first | (with_reducible first | exact HB.out | apply below_alloc | apply pw_below_drewN | apply below_drew1 | refine below_set ?_ GE558.out | refine below_set ?_ GE566.out | refine below_set ?_ GE568.out) | exact HB.out)⟩⟩
             ·rw [if_neg c57] at H
              exact absurd H (by simp)
            ·rw [if_neg c56] at H
             exact absurd H (by simp)
       ·rw [if_neg c19] at H
        exact absurd H (by simp)
      ·rw [if_neg c18] at H
       have c18b0 : decide (x4_2 < (t562.length : Int)) = false := decide_eq_false c18
       clear c18
       obtain rfl := Option.some.inj H
       obtain ⟨Ao97, co97, eo97⟩ := Kd.R_slice HO_3.out
       subst eo97
       go_wp2
       go_ret
       exact ⟨by first | rfl | (simp [errW_none, errW_some] <;> rfl) | (simp [*, errW_none, errW_some] <;> rfl), by repeat (first | (with_reducible first | exact HB.out | apply below_alloc | apply pw_below_drewN | apply below_drew1 | refine below_set ?_ GE558.out) | exact HB.out)⟩

end Go.Proofs.Ytfnnngoandpgkaa.P
