/- Written by a program of this session, after the kit's print: Lean functions for Go functions, and the proof that the machine comes to their answers. -/
import Derived.Test.YtmapllahhpdedaaPx0
import Derived.Test.YtmapllahhpdedaaPxEntrepotlaw12its
import Derived.Test.YtmapllahhpdedaaPxEntrepotlaw12long
import Derived.Test.YtmapllahhpdedaaPxEntrepotlaw12shown
import Derived.Test.YtmapllahhpdedaaPxEntrepotref07Ints
import Derived.Test.YtmapllahhpdedaaPxEntrepotref12Lacks
import Derived.Test.YtmapllahhpdedaaPxExpressCan
import Derived.Test.YtmapllahhpdedaaGLacks
namespace Go.Proofs.Ytmapllahhpdedaa.P
open Go.RowKit Go.Proofs.YtmapllahhpdedaaW.PrintWords Go.Proofs.YtmapllahhpdedaaW.PrintLast Go.Proofs.YtmapllahhpdedaaW.PrintMore
attribute [local go_sem] max2_int min2_int max_two min_two max_three min_three max_four min_four   -- for this text's walks alone
set_option linter.unusedVariables false
set_option linter.unusedSimpArgs false

/-! ### entrepotlaw12_ExpressTells: function 3 -/
def entrepotlaw12_ExpressTells.j0 : Nat → Int → Bool → ByteArray → Int → Int → Int → Int → Int → List (S40) → List Int → Option (Bool)
 | 0, _, _, _, _, _, _, _, _, _, _ => none
 | k + 1, x0, x11, x151000, x151001, x151002, x151003, x151004, x151005, x151006, x151007 => if x11 = true then ((entrepotlaw12_shown.f).bind fun t153 => (some t153)) else ((express_Lacks.f x0 x151000 x151001 x151002 x151003 x151004 x151005 x151006 x151007).bind fun t154 => ((entrepotlaw12_its.f k x151000 x151001 x151002 x151003 x151004 x151005 x151006 x151007).bind fun bt157 => ((entrepotref12_Lacks.f k x0 bt157.1 bt157.2.1 bt157.2.2.1 bt157.2.2.2.1 bt157.2.2.2.2.1 bt157.2.2.2.2.2.1 bt157.2.2.2.2.2.2.1 bt157.2.2.2.2.2.2.2).bind fun t169 => ((entrepotref07_Ints.f k t154 t169).bind fun t172 => (if t172 = true then ((express_Can.f x0 x151000 x151001 x151002 x151003 x151004 x151005 x151006 x151007).bind fun t173 => (some (t173 == ((t154.length : Int) == 0)))) else (some false))))))
def entrepotlaw12_ExpressTells.f (k : Nat) (a0 : Int) (a1_0 : ByteArray) (a1_1 : Int) (a1_2 : Int) (a1_3 : Int) (a1_4 : Int) (a1_5 : Int) (l1_6 : List (S40)) (l1_7 : List Int) : Option (Bool) := (entrepotlaw12_long.f a1_0 a1_1 a1_2 a1_3 a1_4 a1_5 l1_6 l1_7).bind fun t151 => (if t151 = true then (entrepotlaw12_ExpressTells.j0 k a0 true a1_0 a1_1 a1_2 a1_3 a1_4 a1_5 l1_6 l1_7) else ((entrepotlaw12_shown.f).bind fun t152 => (entrepotlaw12_ExpressTells.j0 k a0 (!t152) a1_0 a1_1 a1_2 a1_3 a1_4 a1_5 l1_6 l1_7)))
theorem entrepotlaw12_ExpressTells.mono_l : ∀ k, (∀ y0 y1 y2 y3 y4 y5 y6 y7 y8 y9, LeO (entrepotlaw12_ExpressTells.j0 k y0 y1 y2 y3 y4 y5 y6 y7 y8 y9) (entrepotlaw12_ExpressTells.j0 (k + 1) y0 y1 y2 y3 y4 y5 y6 y7 y8 y9))
 | 0 => fun _ _ _ _ _ _ _ _ _ _ r h => by simp [entrepotlaw12_ExpressTells.j0] at h
 | k + 1 => by
  have ih0 := entrepotlaw12_ExpressTells.mono_l k
  ·intro y0 y1 y2 y3 y4 y5 y6 y7 y8 y9
   unfold entrepotlaw12_ExpressTells.j0
   repeat' first
   | (with_reducible exact ih0 _ _ _ _ _ _ _ _ _ _)
   | (with_reducible exact entrepotlaw12_its.mono _ _ _ _ _ _ _ _ _)
   | (with_reducible exact entrepotref07_Ints.mono _ _ _)
   | (with_reducible exact entrepotref12_Lacks.mono _ _ _ _ _ _ _ _ _ _)
   | (with_reducible exact LeO.refl _)
   | (with_reducible exact LeO.none _)
   | (with_reducible refine LeO.ite ?_ ?_)
   | (with_reducible refine LeO.bind ?_ (fun _ => ?_))
   | exact ih0 _ _ _ _ _ _ _ _ _ _
   | exact entrepotlaw12_its.mono _ _ _ _ _ _ _ _ _
   | exact entrepotref07_Ints.mono _ _ _
   | exact entrepotref12_Lacks.mono _ _ _ _ _ _ _ _ _ _
   | exact LeO.none _
   | refine LeO.ite ?_ ?_
   | refine LeO.bind ?_ (fun _ => ?_)
theorem entrepotlaw12_ExpressTells.mono : ∀ a0 a1 a2 a3 a4 a5 a6 a7 a8 k, LeO (entrepotlaw12_ExpressTells.f k a0 a1 a2 a3 a4 a5 a6 a7 a8) (entrepotlaw12_ExpressTells.f (k + 1) a0 a1 a2 a3 a4 a5 a6 a7 a8) := by
 intro a0 a1 a2 a3 a4 a5 a6 a7 a8 k
 have ih0 := entrepotlaw12_ExpressTells.mono_l k
 unfold entrepotlaw12_ExpressTells.f
 repeat' first
   | (with_reducible exact ih0 _ _ _ _ _ _ _ _ _ _)
   | (with_reducible exact entrepotlaw12_its.mono _ _ _ _ _ _ _ _ _)
   | (with_reducible exact entrepotref07_Ints.mono _ _ _)
   | (with_reducible exact entrepotref12_Lacks.mono _ _ _ _ _ _ _ _ _ _)
   | (with_reducible exact LeO.refl _)
   | (with_reducible exact LeO.none _)
   | (with_reducible refine LeO.ite ?_ ?_)
   | (with_reducible refine LeO.bind ?_ (fun _ => ?_))
   | exact ih0 _ _ _ _ _ _ _ _ _ _
   | exact entrepotlaw12_its.mono _ _ _ _ _ _ _ _ _
   | exact entrepotref07_Ints.mono _ _ _
   | exact entrepotref12_Lacks.mono _ _ _ _ _ _ _ _ _ _
   | exact LeO.none _
   | refine LeO.ite ?_ ?_
   | refine LeO.bind ?_ (fun _ => ?_)
set_option maxHeartbeats 8000000 in
set_option maxRecDepth 100000 in
theorem entrepotlaw12_ExpressTells.calls (k : Nat) (a0 : Int) (a1_0 : ByteArray) (a1_1 : Int) (a1_2 : Int) (a1_3 : Int) (a1_4 : Int) (a1_5 : Int) (A1_6 : Option Addr) (c1_6 : Nat) (l1_6 : List (S40)) (A1_7 : Option Addr) (c1_7 : Nat) (l1_7 : List Int) (r : Bool) (w : World) (hr1_6 : Kd.C k40 w A1_6 l1_6.length l1_6) (hc1_6 : l1_6.length ≤ c1_6) (hr1_7 : Kd.C (Kd.int .i64) w A1_7 l1_7.length l1_7) (hc1_7 : l1_7.length ≤ c1_7) (h : entrepotlaw12_ExpressTells.f k a0 a1_0 a1_1 a1_2 a1_3 a1_4 a1_5 l1_6 l1_7 = some r) :
  Calls Try.prog 3 #[.int .i64 a0, .agg #[.string a1_0, .int .i64 a1_1, .int .i64 a1_2, .int .i64 a1_3, .int .i64 a1_4, .int .i64 a1_5, .slice A1_6 l1_6.length c1_6, .slice A1_7 l1_7.length c1_7]] w fun e w' => e = .returned (.bool r) ∧ Below w.heap.size w w' := by
 have hu25 := Try.underlying25
 have HR1_6 := Aside0.mk hr1_6
 have HC1_6 := Aside0.mk hc1_6
 clear hr1_6 hc1_6
 have HR1_7 := Aside0.mk hr1_7
 have HC1_7 := Aside0.mk hc1_7
 clear hr1_7 hc1_7
 have HB := Aside0.mk (Below.refl w.heap.size w)
 have H : ((entrepotlaw12_long.f a1_0 a1_1 a1_2 a1_3 a1_4 a1_5 l1_6 l1_7).bind fun t151 => (if t151 = true then (entrepotlaw12_ExpressTells.j0 k a0 true a1_0 a1_1 a1_2 a1_3 a1_4 a1_5 l1_6 l1_7) else ((entrepotlaw12_shown.f).bind fun t152 => (entrepotlaw12_ExpressTells.j0 k a0 (!t152) a1_0 a1_1 a1_2 a1_3 a1_4 a1_5 l1_6 l1_7)))) = some r := h
 clear h
 have HC3 := Aside0.mk H
 clear H
 go_enter Try.func3, Try.ntmps3
 go_upto_region 1 with (first | ((with_reducible refine gate_dst (N := 3) rfl ?_); (try (refine gate_guard (by rfl) ?_; dsimp only)); refine box_event ?hg (N := 3) ?hd (cs := #[.string a1_0, .int .i64 a1_1, .int .i64 a1_2, .int .i64 a1_3, .int .i64 a1_4, .int .i64 a1_5, .slice A1_6 l1_6.length c1_6, .slice A1_7 l1_7.length c1_7]) (t := 25) ?hr ?_; (case hd => rfl); (case hg => rfl); (case hr => first | (go_simp; done) | (go_simp; rfl)); intro gb150 hg w4 hbox hb; have n0_ := Aside0.mk (below_step (by repeat (first | (with_reducible first | exact HB.out | apply below_alloc | apply pw_below_drewN | apply below_drew1) | exact HB.out)) hb); have n1_ := Aside0.mk (hbox); have n2_ := Aside0.mk ((by rw [hg]; exact (below_size (by repeat (first | (with_reducible first | exact HB.out | apply below_alloc | apply pw_below_drewN | apply below_drew1) | exact HB.out))) : w.heap.size ≤ gb150)); have n3_ := Aside0.mk ((by rw [hg]; exact (below_size (by repeat (first | (with_reducible first | exact HB.out | apply below_alloc | apply pw_below_drewN | apply below_drew1) | exact HB.out))) : w.heap.size ≤ gb150)); clear HB; have HB := n0_; have BK150 := n1_; have GW150 := n2_; have GE150 := n3_; clear n0_ n1_ n2_ n3_; clear hb hbox hg))
 (try simp only [Act.put, List.setIfInBounds_toArray, List.set_cons_zero, List.set_cons_succ])
 go_cut [11] (fun v11 wc => ∃ (kq : Nat) (x11_2 : Bool), v11 = .bool x11_2 ∧ Aside0 (entrepotlaw12_ExpressTells.j0 kq a0 x11_2 a1_0 a1_1 a1_2 a1_3 a1_4 a1_5 l1_6 l1_7 = some r) ∧ Aside0 (kq ≤ k) ∧ Aside0 (wc.heap[gb150]? = some (.cells #[.string a1_0, .int .i64 a1_1, .int .i64 a1_2, .int .i64 a1_3, .int .i64 a1_4, .int .i64 a1_5, (.slice A1_6 l1_6.length c1_6), (.slice A1_7 l1_7.length c1_7)] 25 (0, 0))) ∧ Aside0 (Below w.heap.size w wc))
 case first =>
  have H := HC3.out
  clear HC3
  replace H := Option.bind_eq_some_iff.mp H
  obtain ⟨t151, A50, H⟩ := H
  replace H : (if t151 = true then (entrepotlaw12_ExpressTells.j0 k a0 true a1_0 a1_1 a1_2 a1_3 a1_4 a1_5 l1_6 l1_7) else ((entrepotlaw12_shown.f).bind fun t152 => (entrepotlaw12_ExpressTells.j0 k a0 (!t152) a1_0 a1_1 a1_2 a1_3 a1_4 a1_5 l1_6 l1_7))) = some r := H
  have A5 := Aside0.mk A50
  clear A50
  by_cases c6 : t151 = true
  ·subst c6
   have H1 : (entrepotlaw12_ExpressTells.j0 k a0 true a1_0 a1_1 a1_2 a1_3 a1_4 a1_5 l1_6 l1_7) = some r := by rw [if_pos rfl] at H; exact H
   clear H
   have H := H1
   clear H1
   have H' := Aside0.mk H
   clear H
   have hcz7_0 : w4.cell? ⟨gb150, 0, none⟩ = some (.string a1_0) := (blk_cell BK150.out 0).trans rfl
   have hcz7_1 : w4.cell? ⟨gb150, 1, none⟩ = some (.int .i64 a1_1) := (blk_cell BK150.out 1).trans rfl
   have hcz7_2 : w4.cell? ⟨gb150, 2, none⟩ = some (.int .i64 a1_2) := (blk_cell BK150.out 2).trans rfl
   have hcz7_3 : w4.cell? ⟨gb150, 3, none⟩ = some (.int .i64 a1_3) := (blk_cell BK150.out 3).trans rfl
   have hcz7_4 : w4.cell? ⟨gb150, 4, none⟩ = some (.int .i64 a1_4) := (blk_cell BK150.out 4).trans rfl
   have hcz7_5 : w4.cell? ⟨gb150, 5, none⟩ = some (.int .i64 a1_5) := (blk_cell BK150.out 5).trans rfl
   have hcz7_6 : w4.cell? ⟨gb150, 6, none⟩ = some (.slice A1_6 l1_6.length c1_6) := (blk_cell BK150.out 6).trans rfl
   have hcz7_7 : w4.cell? ⟨gb150, 7, none⟩ = some (.slice A1_7 l1_7.length c1_7) := (blk_cell BK150.out 7).trans rfl
   have hfz7_0 := blk_frozen BK150.out 0
   have hfz7_1 := blk_frozen BK150.out 1
   have hfz7_2 := blk_frozen BK150.out 2
   have hfz7_3 := blk_frozen BK150.out 3
   have hfz7_4 := blk_frozen BK150.out 4
   have hfz7_5 := blk_frozen BK150.out 5
   have hfz7_6 := blk_frozen BK150.out 6
   have hfz7_7 := blk_frozen BK150.out 7
   go_wp2_with (first | ((with_reducible refine gate_callee (f := 7) rfl ?_); refine goesL_ (some 7) rfl rfl Try.func7 (by kernel_rfl) rfl #[.agg #[.string a1_0, .int .i64 a1_1, .int .i64 a1_2, .int .i64 a1_3, .int .i64 a1_4, .int .i64 a1_5, .slice A1_6 l1_6.length c1_6, .slice A1_7 l1_7.length c1_7]] rfl (by (try simp only [List.map_toArray, List.map_cons, List.map_nil]); first | done | rfl | (simp only [List.length_drop, List.length_take]; rfl)) ?_; (with_reducible refine (entrepotlaw12_long.calls a1_0 a1_1 a1_2 a1_3 a1_4 a1_5 _ _ l1_6 _ _ l1_7 true _ ?side1 ?side2 ?side3 ?side4 A5.out).mono ?_); (case side1 => repeat (first | exact (Kd.C_below HR1_6.out HB.out) | (with_reducible refine Kd.C_alloc ?_ _) | (with_reducible refine Kd.C_drewN ?_ _) | (with_reducible refine Kd.C_drew ?_))); (case side2 => exact HC1_6.out); (case side3 => repeat (first | exact (Kd.C_below HR1_7.out HB.out) | (with_reducible refine Kd.C_alloc ?_ _) | (with_reducible refine Kd.C_drewN ?_ _) | (with_reducible refine Kd.C_drew ?_))); (case side4 => exact HC1_7.out); rintro e w8 ⟨rfl, hb⟩; refine ⟨_, rfl, ?_⟩; have n0_ := Aside0.mk (blk_below (g := gb150) (o := .cells #[.string a1_0, .int .i64 a1_1, .int .i64 a1_2, .int .i64 a1_3, .int .i64 a1_4, .int .i64 a1_5, .slice A1_6 l1_6.length c1_6, .slice A1_7 l1_7.length c1_7] 25 (0, 0)) (by (with_reducible repeat (first | refine blk_drewN ?_ _ | refine blk_drew ?_ | refine blk_alloc ?_ _)); exact BK150.out) hb); have n1_ := Aside0.mk (below_step (by repeat (first | (with_reducible first | exact HB.out | apply below_alloc | apply pw_below_drewN | apply below_drew1 | refine below_set ?_ GE150.out) | exact HB.out)) hb); clear BK150; clear HB; have BK150 := n0_; have HB := n1_; clear n0_ n1_; (try clear hb); (try clear hb2); (try clear hk); (try clear hi)))
   go_meet
   case rel => exact ⟨_, (true), (by first | rfl | (simp; done) | (simp [*]; done)), H', ⟨by first | omega | exact Nat.le_refl _⟩, ⟨by (with_reducible repeat (first | refine blk_drewN ?_ _ | refine blk_drew ?_ | refine blk_alloc ?_ _)); exact BK150.out⟩, ⟨by repeat (first | (with_reducible first | exact HB.out | apply below_alloc | apply pw_below_drewN | apply below_drew1 | refine below_set ?_ GE150.out) | exact HB.out)⟩⟩
  ·replace c6 := Bool.eq_false_iff.mpr c6
   subst c6
   have H1 : ((entrepotlaw12_shown.f).bind fun t152 => (entrepotlaw12_ExpressTells.j0 k a0 (!t152) a1_0 a1_1 a1_2 a1_3 a1_4 a1_5 l1_6 l1_7)) = some r := by rw [if_neg (show ¬ (false = true) by decide)] at H; exact H
   clear H
   have H := H1
   clear H1
   replace H := Option.bind_eq_some_iff.mp H
   obtain ⟨t152, A90, H⟩ := H
   replace H : (entrepotlaw12_ExpressTells.j0 k a0 (!t152) a1_0 a1_1 a1_2 a1_3 a1_4 a1_5 l1_6 l1_7) = some r := H
   have A9 := Aside0.mk A90
   clear A90
   have H' := Aside0.mk H
   clear H
   have hcz10_0 : w4.cell? ⟨gb150, 0, none⟩ = some (.string a1_0) := (blk_cell BK150.out 0).trans rfl
   have hcz10_1 : w4.cell? ⟨gb150, 1, none⟩ = some (.int .i64 a1_1) := (blk_cell BK150.out 1).trans rfl
   have hcz10_2 : w4.cell? ⟨gb150, 2, none⟩ = some (.int .i64 a1_2) := (blk_cell BK150.out 2).trans rfl
   have hcz10_3 : w4.cell? ⟨gb150, 3, none⟩ = some (.int .i64 a1_3) := (blk_cell BK150.out 3).trans rfl
   have hcz10_4 : w4.cell? ⟨gb150, 4, none⟩ = some (.int .i64 a1_4) := (blk_cell BK150.out 4).trans rfl
   have hcz10_5 : w4.cell? ⟨gb150, 5, none⟩ = some (.int .i64 a1_5) := (blk_cell BK150.out 5).trans rfl
   have hcz10_6 : w4.cell? ⟨gb150, 6, none⟩ = some (.slice A1_6 l1_6.length c1_6) := (blk_cell BK150.out 6).trans rfl
   have hcz10_7 : w4.cell? ⟨gb150, 7, none⟩ = some (.slice A1_7 l1_7.length c1_7) := (blk_cell BK150.out 7).trans rfl
   have hfz10_0 := blk_frozen BK150.out 0
   have hfz10_1 := blk_frozen BK150.out 1
   have hfz10_2 := blk_frozen BK150.out 2
   have hfz10_3 := blk_frozen BK150.out 3
   have hfz10_4 := blk_frozen BK150.out 4
   have hfz10_5 := blk_frozen BK150.out 5
   have hfz10_6 := blk_frozen BK150.out 6
   have hfz10_7 := blk_frozen BK150.out 7
   go_wp2_with (first | ((with_reducible refine gate_callee (f := 7) rfl ?_); refine goesL_ (some 7) rfl rfl Try.func7 (by kernel_rfl) rfl #[.agg #[.string a1_0, .int .i64 a1_1, .int .i64 a1_2, .int .i64 a1_3, .int .i64 a1_4, .int .i64 a1_5, .slice A1_6 l1_6.length c1_6, .slice A1_7 l1_7.length c1_7]] rfl (by (try simp only [List.map_toArray, List.map_cons, List.map_nil]); first | done | rfl | (simp only [List.length_drop, List.length_take]; rfl)) ?_; (with_reducible refine (entrepotlaw12_long.calls a1_0 a1_1 a1_2 a1_3 a1_4 a1_5 _ _ l1_6 _ _ l1_7 false _ ?side1 ?side2 ?side3 ?side4 A5.out).mono ?_); (case side1 => repeat (first | exact (Kd.C_below HR1_6.out HB.out) | (with_reducible refine Kd.C_alloc ?_ _) | (with_reducible refine Kd.C_drewN ?_ _) | (with_reducible refine Kd.C_drew ?_))); (case side2 => exact HC1_6.out); (case side3 => repeat (first | exact (Kd.C_below HR1_7.out HB.out) | (with_reducible refine Kd.C_alloc ?_ _) | (with_reducible refine Kd.C_drewN ?_ _) | (with_reducible refine Kd.C_drew ?_))); (case side4 => exact HC1_7.out); rintro e w11 ⟨rfl, hb⟩; refine ⟨_, rfl, ?_⟩; have n0_ := Aside0.mk (blk_below (g := gb150) (o := .cells #[.string a1_0, .int .i64 a1_1, .int .i64 a1_2, .int .i64 a1_3, .int .i64 a1_4, .int .i64 a1_5, .slice A1_6 l1_6.length c1_6, .slice A1_7 l1_7.length c1_7] 25 (0, 0)) (by (with_reducible repeat (first | refine blk_drewN ?_ _ | refine blk_drew ?_ | refine blk_alloc ?_ _)); exact BK150.out) hb); have n1_ := Aside0.mk (below_step (by repeat (first | (with_reducible first | exact HB.out | apply below_alloc | apply pw_below_drewN | apply below_drew1 | refine below_set ?_ GE150.out) | exact HB.out)) hb); clear BK150; clear HB; have BK150 := n0_; have HB := n1_; clear n0_ n1_; (try clear hb); (try clear hb2); (try clear hk); (try clear hi)) | (go_at_call 8; (with_reducible refine (entrepotlaw12_shown.calls  t152 _ A9.out).mono ?_); rintro e w12 ⟨rfl, hb⟩; have n0_ := Aside0.mk (blk_below (g := gb150) (o := .cells #[.string a1_0, .int .i64 a1_1, .int .i64 a1_2, .int .i64 a1_3, .int .i64 a1_4, .int .i64 a1_5, .slice A1_6 l1_6.length c1_6, .slice A1_7 l1_7.length c1_7] 25 (0, 0)) (by (with_reducible repeat (first | refine blk_drewN ?_ _ | refine blk_drew ?_ | refine blk_alloc ?_ _)); exact BK150.out) hb); have n1_ := Aside0.mk (below_step (by repeat (first | (with_reducible first | exact HB.out | apply below_alloc | apply pw_below_drewN | apply below_drew1 | refine below_set ?_ GE150.out) | exact HB.out)) hb); clear BK150; clear HB; have BK150 := n0_; have HB := n1_; clear n0_ n1_; (try clear hb); (try clear hb2); (try clear hk); (try clear hi)))
   go_meet
   case rel => exact ⟨_, (!t152), (by first | rfl | (simp; done) | (simp [*]; done)), H', ⟨by first | omega | exact Nat.le_refl _⟩, ⟨by (with_reducible repeat (first | refine blk_drewN ?_ _ | refine blk_drew ?_ | refine blk_alloc ?_ _)); exact BK150.out⟩, ⟨by repeat (first | (with_reducible first | exact HB.out | apply below_alloc | apply pw_below_drewN | apply below_drew1 | refine below_set ?_ GE150.out) | exact HB.out)⟩⟩
 case rest =>
  clear HC3
  obtain ⟨kq, x11_2, rfl, HA, HJ2, BK150, HB⟩ := hcut
  cases kq with
  | zero => exact absurd HA.out (by simp [entrepotlaw12_ExpressTells.j0])
  | succ kj2 =>
   have H := HA.out
   clear HA
   simp only [entrepotlaw12_ExpressTells.j0] at H
   by_cases c13 : x11_2 = true
   ·subst c13
    have H1 : ((entrepotlaw12_shown.f).bind fun t153 => (some t153)) = some r := by rw [if_pos rfl] at H; exact H
    clear H
    have H := H1
    clear H1
    replace H := Option.bind_eq_some_iff.mp H
    obtain ⟨t153, A140, H⟩ := H
    replace H : (some t153) = some r := H
    have A14 := Aside0.mk A140
    clear A140
    obtain rfl := Option.some.inj H
    go_wp2_with (first | ((with_reducible refine gate_callee (f := 8) rfl ?_); refine goesL_ (some 12) rfl rfl Try.func8 (by kernel_rfl) rfl #[] rfl (by (try simp only [List.map_toArray, List.map_cons, List.map_nil]); first | done | rfl | (simp only [List.length_drop, List.length_take]; rfl)) ?_; (with_reducible refine (entrepotlaw12_shown.calls  t153 _ A14.out).mono ?_); rintro e w15 ⟨rfl, hb⟩; refine ⟨_, rfl, ?_⟩; have n0_ := Aside0.mk (blk_below (g := gb150) (o := .cells #[.string a1_0, .int .i64 a1_1, .int .i64 a1_2, .int .i64 a1_3, .int .i64 a1_4, .int .i64 a1_5, .slice A1_6 l1_6.length c1_6, .slice A1_7 l1_7.length c1_7] 25 (0, 0)) (by (with_reducible repeat (first | refine blk_drewN ?_ _ | refine blk_drew ?_ | refine blk_alloc ?_ _)); exact BK150.out) hb); have n1_ := Aside0.mk (below_step (by repeat (first | (with_reducible first | exact HB.out | apply below_alloc | apply pw_below_drewN | apply below_drew1 | refine below_set ?_ GE150.out) | exact HB.out)) hb); clear BK150; clear HB; have BK150 := n0_; have HB := n1_; clear n0_ n1_; (try clear hb); (try clear hb2); (try clear hk); (try clear hi)))
    go_ret
    exact ⟨by first | rfl | (simp [errW_none, errW_some] <;> rfl) | (simp [*, errW_none, errW_some] <;> rfl), by repeat (first | (with_reducible first | exact HB.out | apply below_alloc | apply pw_below_drewN | apply below_drew1 | refine below_set ?_ GE150.out) | exact HB.out)⟩
   ·replace c13 := Bool.eq_false_iff.mpr c13
    subst c13
    have H1 : ((express_Lacks.f a0 a1_0 a1_1 a1_2 a1_3 a1_4 a1_5 l1_6 l1_7).bind fun t154 => ((entrepotlaw12_its.f kj2 a1_0 a1_1 a1_2 a1_3 a1_4 a1_5 l1_6 l1_7).bind fun bt157 => ((entrepotref12_Lacks.f kj2 a0 bt157.1 bt157.2.1 bt157.2.2.1 bt157.2.2.2.1 bt157.2.2.2.2.1 bt157.2.2.2.2.2.1 bt157.2.2.2.2.2.2.1 bt157.2.2.2.2.2.2.2).bind fun t169 => ((entrepotref07_Ints.f kj2 t154 t169).bind fun t172 => (if t172 = true then ((express_Can.f a0 a1_0 a1_1 a1_2 a1_3 a1_4 a1_5 l1_6 l1_7).bind fun t173 => (some (t173 == ((t154.length : Int) == 0)))) else (some false)))))) = some r := by rw [if_neg (show ¬ (false = true) by decide)] at H; exact H
    clear H
    have H := H1
    clear H1
    replace H := Option.bind_eq_some_iff.mp H
    obtain ⟨t154, A160, H⟩ := H
    replace H : ((entrepotlaw12_its.f kj2 a1_0 a1_1 a1_2 a1_3 a1_4 a1_5 l1_6 l1_7).bind fun bt157 => ((entrepotref12_Lacks.f kj2 a0 bt157.1 bt157.2.1 bt157.2.2.1 bt157.2.2.2.1 bt157.2.2.2.2.1 bt157.2.2.2.2.2.1 bt157.2.2.2.2.2.2.1 bt157.2.2.2.2.2.2.2).bind fun t169 => ((entrepotref07_Ints.f kj2 t154 t169).bind fun t172 => (if t172 = true then ((express_Can.f a0 a1_0 a1_1 a1_2 a1_3 a1_4 a1_5 l1_6 l1_7).bind fun t173 => (some (t173 == ((t154.length : Int) == 0)))) else (some false))))) = some r := H
    have A16 := Aside0.mk A160
    clear A160
    replace H := Option.bind_eq_some_iff.mp H
    obtain ⟨⟨t157, t158, t159, t160, t161, t162, t163, t166⟩, A170, H⟩ := H
    replace H : ((entrepotref12_Lacks.f kj2 a0 t157 t158 t159 t160 t161 t162 t163 t166).bind fun t169 => ((entrepotref07_Ints.f kj2 t154 t169).bind fun t172 => (if t172 = true then ((express_Can.f a0 a1_0 a1_1 a1_2 a1_3 a1_4 a1_5 l1_6 l1_7).bind fun t173 => (some (t173 == ((t154.length : Int) == 0)))) else (some false)))) = some r := H
    have A17 := Aside0.mk A170
    clear A170
    replace H := Option.bind_eq_some_iff.mp H
    obtain ⟨t169, A180, H⟩ := H
    replace H : ((entrepotref07_Ints.f kj2 t154 t169).bind fun t172 => (if t172 = true then ((express_Can.f a0 a1_0 a1_1 a1_2 a1_3 a1_4 a1_5 l1_6 l1_7).bind fun t173 => (some (t173 == ((t154.length : Int) == 0)))) else (some false))) = some r := H
    have A18 := Aside0.mk A180
    clear A180
    replace H := Option.bind_eq_some_iff.mp H
    obtain ⟨t172, A190, H⟩ := H
    replace H : (if t172 = true then ((express_Can.f a0 a1_0 a1_1 a1_2 a1_3 a1_4 a1_5 l1_6 l1_7).bind fun t173 => (some (t173 == ((t154.length : Int) == 0)))) else (some false)) = some r := H
    have A19 := Aside0.mk A190
    clear A190
    by_cases c20 : t172 = true
    ·subst c20
     have H1 : ((express_Can.f a0 a1_0 a1_1 a1_2 a1_3 a1_4 a1_5 l1_6 l1_7).bind fun t173 => (some (t173 == ((t154.length : Int) == 0)))) = some r := by rw [if_pos rfl] at H; exact H
     clear H
     have H := H1
     clear H1
     replace H := Option.bind_eq_some_iff.mp H
     obtain ⟨t173, A210, H⟩ := H
     replace H : (some (t173 == ((t154.length : Int) == 0))) = some r := H
     have A21 := Aside0.mk A210
     clear A210
     obtain rfl := Option.some.inj H
     have hcz22_0 : wc.cell? ⟨gb150, 0, none⟩ = some (.string a1_0) := (blk_cell BK150.out 0).trans rfl
     have hcz22_1 : wc.cell? ⟨gb150, 1, none⟩ = some (.int .i64 a1_1) := (blk_cell BK150.out 1).trans rfl
     have hcz22_2 : wc.cell? ⟨gb150, 2, none⟩ = some (.int .i64 a1_2) := (blk_cell BK150.out 2).trans rfl
     have hcz22_3 : wc.cell? ⟨gb150, 3, none⟩ = some (.int .i64 a1_3) := (blk_cell BK150.out 3).trans rfl
     have hcz22_4 : wc.cell? ⟨gb150, 4, none⟩ = some (.int .i64 a1_4) := (blk_cell BK150.out 4).trans rfl
     have hcz22_5 : wc.cell? ⟨gb150, 5, none⟩ = some (.int .i64 a1_5) := (blk_cell BK150.out 5).trans rfl
     have hcz22_6 : wc.cell? ⟨gb150, 6, none⟩ = some (.slice A1_6 l1_6.length c1_6) := (blk_cell BK150.out 6).trans rfl
     have hcz22_7 : wc.cell? ⟨gb150, 7, none⟩ = some (.slice A1_7 l1_7.length c1_7) := (blk_cell BK150.out 7).trans rfl
     have hfz22_0 := blk_frozen BK150.out 0
     have hfz22_1 := blk_frozen BK150.out 1
     have hfz22_2 := blk_frozen BK150.out 2
     have hfz22_3 := blk_frozen BK150.out 3
     have hfz22_4 := blk_frozen BK150.out 4
     have hfz22_5 := blk_frozen BK150.out 5
     have hfz22_6 := blk_frozen BK150.out 6
     have hfz22_7 := blk_frozen BK150.out 7
     go_wp2_with (first | ((with_reducible refine gate_callee (f := 9) rfl ?_); refine goesL_ (some 15) rfl rfl Try.func9 (by kernel_rfl) rfl #[.int .i64 a0, .agg #[.string a1_0, .int .i64 a1_1, .int .i64 a1_2, .int .i64 a1_3, .int .i64 a1_4, .int .i64 a1_5, .slice A1_6 l1_6.length c1_6, .slice A1_7 l1_7.length c1_7]] rfl (by (try simp only [List.map_toArray, List.map_cons, List.map_nil]); first | done | rfl | (simp only [List.length_drop, List.length_take]; rfl)) ?_; (with_reducible refine (express_Lacks.calls a0 a1_0 a1_1 a1_2 a1_3 a1_4 a1_5 _ _ l1_6 _ _ l1_7 t154 _ ?side1 ?side2 ?side3 ?side4 A16.out).mono ?_); (case side1 => repeat (first | exact (Kd.C_below HR1_6.out HB.out) | (with_reducible refine Kd.C_alloc ?_ _) | (with_reducible refine Kd.C_drewN ?_ _) | (with_reducible refine Kd.C_drew ?_))); (case side2 => exact HC1_6.out); (case side3 => repeat (first | exact (Kd.C_below HR1_7.out HB.out) | (with_reducible refine Kd.C_alloc ?_ _) | (with_reducible refine Kd.C_drewN ?_ _) | (with_reducible refine Kd.C_drew ?_))); (case side4 => exact HC1_7.out); rintro e w23 ⟨v155, rfl, ho0, hb⟩; refine ⟨_, rfl, ?_⟩; have n0_ := Aside0.mk (Kd.R_lower ho0 (below_size (by repeat (first | (with_reducible first | exact HB.out | apply below_alloc | apply pw_below_drewN | apply below_drew1 | refine below_set ?_ GE150.out) | exact HB.out)))); have n1_ := Aside0.mk (blk_below (g := gb150) (o := .cells #[.string a1_0, .int .i64 a1_1, .int .i64 a1_2, .int .i64 a1_3, .int .i64 a1_4, .int .i64 a1_5, .slice A1_6 l1_6.length c1_6, .slice A1_7 l1_7.length c1_7] 25 (0, 0)) (by (with_reducible repeat (first | refine blk_drewN ?_ _ | refine blk_drew ?_ | refine blk_alloc ?_ _)); exact BK150.out) hb); have n2_ := Aside0.mk (below_step (by repeat (first | (with_reducible first | exact HB.out | apply below_alloc | apply pw_below_drewN | apply below_drew1 | refine below_set ?_ GE150.out) | exact HB.out)) hb); clear BK150; clear HB; have HO156 := n0_; have BK150 := n1_; have HB := n2_; clear n0_ n1_ n2_; (try clear hb); (try clear hb2); (try clear hk); (try clear hi); (try clear ho0); have hcz24_0 : w23.cell? ⟨gb150, 0, none⟩ = some (.string a1_0) := (blk_cell BK150.out 0).trans rfl; have hcz24_1 : w23.cell? ⟨gb150, 1, none⟩ = some (.int .i64 a1_1) := (blk_cell BK150.out 1).trans rfl; have hcz24_2 : w23.cell? ⟨gb150, 2, none⟩ = some (.int .i64 a1_2) := (blk_cell BK150.out 2).trans rfl; have hcz24_3 : w23.cell? ⟨gb150, 3, none⟩ = some (.int .i64 a1_3) := (blk_cell BK150.out 3).trans rfl; have hcz24_4 : w23.cell? ⟨gb150, 4, none⟩ = some (.int .i64 a1_4) := (blk_cell BK150.out 4).trans rfl; have hcz24_5 : w23.cell? ⟨gb150, 5, none⟩ = some (.int .i64 a1_5) := (blk_cell BK150.out 5).trans rfl; have hcz24_6 : w23.cell? ⟨gb150, 6, none⟩ = some (.slice A1_6 l1_6.length c1_6) := (blk_cell BK150.out 6).trans rfl; have hcz24_7 : w23.cell? ⟨gb150, 7, none⟩ = some (.slice A1_7 l1_7.length c1_7) := (blk_cell BK150.out 7).trans rfl; have hfz24_0 := blk_frozen BK150.out 0; have hfz24_1 := blk_frozen BK150.out 1; have hfz24_2 := blk_frozen BK150.out 2; have hfz24_3 := blk_frozen BK150.out 3; have hfz24_4 := blk_frozen BK150.out 4; have hfz24_5 := blk_frozen BK150.out 5; have hfz24_6 := blk_frozen BK150.out 6; have hfz24_7 := blk_frozen BK150.out 7) | ((with_reducible refine gate_callee (f := 12) rfl ?_); refine goesL_ (some 19) rfl rfl Try.func12 (by kernel_rfl) rfl #[.agg #[.string a1_0, .int .i64 a1_1, .int .i64 a1_2, .int .i64 a1_3, .int .i64 a1_4, .int .i64 a1_5, .slice A1_6 l1_6.length c1_6, .slice A1_7 l1_7.length c1_7]] rfl (by (try simp only [List.map_toArray, List.map_cons, List.map_nil]); first | done | rfl | (simp only [List.length_drop, List.length_take]; rfl)) ?_; (with_reducible refine (entrepotlaw12_its.calls kj2 a1_0 a1_1 a1_2 a1_3 a1_4 a1_5 _ _ l1_6 (fun k_ => k_ < w.heap.size) _ _ l1_7 t157 t158 t159 t160 t161 t162 t163 t166 _ ?side1 ?side2 ?side3 A17.out).mono ?_); (case side1 => repeat (first | exact (Kd.C_below HR1_6.out HB.out) | (with_reducible refine Kd.C_alloc ?_ _) | (with_reducible refine Kd.C_drewN ?_ _) | (with_reducible refine Kd.C_drew ?_))); (case side2 => exact HC1_6.out); (case side3 => exact Kd.V_mk HC1_7.out (Kd.F_below (Kd.C_F (Kd.heap_int .i64) HR1_7.out) (by repeat (first | (with_reducible first | exact HB.out | apply below_alloc | apply pw_below_drewN | apply below_drew1 | refine below_set ?_ GE150.out) | exact HB.out)))); rintro e w25 ⟨v164, v167, rfl, ho0, ho1, hb⟩; refine ⟨_, rfl, ?_⟩; have n0_ := Aside0.mk (Kd.R_below (by (with_reducible repeat (first | apply Kd.R_alloc | apply Kd.R_drewN | apply Kd.R_drew)); exact HO156.out) hb); have n1_ := Aside0.mk (Kd.R_lower (Kd.R_mono (ok' := fun k_ => True) ho0 (fun _ hk_ => trivial)) (below_size (by repeat (first | (with_reducible first | exact HB.out | apply below_alloc | apply pw_below_drewN | apply below_drew1 | refine below_set ?_ GE150.out) | exact HB.out)))); have n2_ := Aside0.mk (Kd.V_lower (Kd.V_mono (ok' := fun k_ => some k_ ≠ (v164 : Value).ownBlock ∧ some k_ ≠ (v155 : Value).ownBlock ∧ k_ ≠ gb150) ho1 (fun k_ hk_ => ⟨hk_.2, Or.elim hk_.1 (fun hs_ => fun e_ => Nat.not_le.2 hs_ (Kd.R_base HO156.out k_ e_.symm)) (fun hn_ => (Kd.fresh' (Kd.R_lt (by (with_reducible repeat (first | apply Kd.R_alloc | apply Kd.R_drewN | apply Kd.R_drew)); exact HO156.out)) k_ hn_)), Or.elim hk_.1 (fun hs_ => fun e_ => Nat.not_le.2 hs_ (by rw [e_]; exact GW150.out)) (fun hn_ => (Kd.freshB (g := gb150) (o := .cells #[.string a1_0, .int .i64 a1_1, .int .i64 a1_2, .int .i64 a1_3, .int .i64 a1_4, .int .i64 a1_5, .slice A1_6 l1_6.length c1_6, .slice A1_7 l1_7.length c1_7] 25 (0, 0)) (by (with_reducible repeat (first | refine blk_drewN ?_ _ | refine blk_drew ?_ | refine blk_alloc ?_ _)); exact BK150.out) k_ hn_))⟩)) (below_size (by repeat (first | (with_reducible first | exact HB.out | apply below_alloc | apply pw_below_drewN | apply below_drew1 | refine below_set ?_ GE150.out) | exact HB.out)))); have n3_ := Aside0.mk (blk_below (g := gb150) (o := .cells #[.string a1_0, .int .i64 a1_1, .int .i64 a1_2, .int .i64 a1_3, .int .i64 a1_4, .int .i64 a1_5, .slice A1_6 l1_6.length c1_6, .slice A1_7 l1_7.length c1_7] 25 (0, 0)) (by (with_reducible repeat (first | refine blk_drewN ?_ _ | refine blk_drew ?_ | refine blk_alloc ?_ _)); exact BK150.out) hb); have n4_ := Aside0.mk (below_step (by repeat (first | (with_reducible first | exact HB.out | apply below_alloc | apply pw_below_drewN | apply below_drew1 | refine below_set ?_ GE150.out) | exact HB.out)) hb); clear HO156; clear BK150; clear HB; have HO156 := n0_; have HO165 := n1_; have HO168 := n2_; have BK150 := n3_; have HB := n4_; clear n0_ n1_ n2_ n3_ n4_; (try clear hb); (try clear hb2); (try clear hk); (try clear hi); (try clear ho0); (try clear ho1); obtain ⟨Ao26, co26, eo26⟩ := Kd.R_slice HO165.out; subst eo26; obtain ⟨Ao27, co27, eo27⟩ := Kd.V_slice HO168.out; subst eo27) | ((with_reducible refine gate_callee (f := 11) rfl ?_); refine goesL_ (some 20) rfl rfl Try.func11 (by kernel_rfl) rfl #[.int .i64 a0, .agg #[.string t157, .int .i64 t158, .int .i64 t159, .int .i64 t160, .int .i64 t161, .int .i64 t162, .slice Ao26 t163.length co26, .slice Ao27 t166.length co27]] rfl (by (try simp only [List.map_toArray, List.map_cons, List.map_nil]); first | done | rfl | (simp only [List.length_drop, List.length_take]; rfl)) ?_; (with_reducible refine (entrepotref12_Lacks.calls kj2 a0 t157 t158 t159 t160 t161 t162 _ _ t163 _ _ t166 t169 _ ?side1 ?side2 ?side3 ?side4 A18.out).mono ?_); (case side1 => repeat (first | exact (Kd.R_reads' HO165.out).2.2 | (with_reducible refine Kd.C_alloc ?_ _) | (with_reducible refine Kd.C_drewN ?_ _) | (with_reducible refine Kd.C_drew ?_))); (case side2 => exact (Kd.R_reads' HO165.out).2.1); (case side3 => repeat (first | exact (Kd.V_reads' HO168.out).2.2 | (with_reducible refine Kd.C_alloc ?_ _) | (with_reducible refine Kd.C_drewN ?_ _) | (with_reducible refine Kd.C_drew ?_))); (case side4 => exact (Kd.V_reads' HO168.out).2.1); rintro e w28 ⟨v170, rfl, ho0, hb⟩; refine ⟨_, rfl, ?_⟩; have n0_ := Aside0.mk (Kd.R_elder' (by (with_reducible repeat (first | apply Kd.R_alloc | apply Kd.R_drewN | apply Kd.R_drew)); exact HO156.out) (Kd.R_base ho0) hb); have n1_ := Aside0.mk (Kd.R_below (by (with_reducible repeat (first | apply Kd.R_alloc | apply Kd.R_drewN | apply Kd.R_drew)); exact HO165.out) hb); have n2_ := Aside0.mk (Kd.V_elder' (by (with_reducible repeat (first | apply Kd.V_alloc | apply Kd.V_drewN | apply Kd.V_drew)); exact HO168.out) (Kd.R_base ho0) hb); have n3_ := Aside0.mk (Kd.R_lower (Kd.R_new' ho0 (Kd.R_lt (by (with_reducible repeat (first | apply Kd.R_alloc | apply Kd.R_drewN | apply Kd.R_drew)); exact HO156.out))) (below_size (by repeat (first | (with_reducible first | exact HB.out | apply below_alloc | apply pw_below_drewN | apply below_drew1 | refine below_set ?_ GE150.out) | exact HB.out)))); have n4_ := Aside0.mk (blk_below (g := gb150) (o := .cells #[.string a1_0, .int .i64 a1_1, .int .i64 a1_2, .int .i64 a1_3, .int .i64 a1_4, .int .i64 a1_5, .slice A1_6 l1_6.length c1_6, .slice A1_7 l1_7.length c1_7] 25 (0, 0)) (by (with_reducible repeat (first | refine blk_drewN ?_ _ | refine blk_drew ?_ | refine blk_alloc ?_ _)); exact BK150.out) hb); have n5_ := Aside0.mk (below_step (by repeat (first | (with_reducible first | exact HB.out | apply below_alloc | apply pw_below_drewN | apply below_drew1 | refine below_set ?_ GE150.out) | exact HB.out)) hb); clear HO156; clear HO165; clear HO168; clear BK150; clear HB; have HO156 := n0_; have HO165 := n1_; have HO168 := n2_; have HO171 := n3_; have BK150 := n4_; have HB := n5_; clear n0_ n1_ n2_ n3_ n4_ n5_; (try clear hb); (try clear hb2); (try clear hk); (try clear hi); (try clear ho0); obtain ⟨Ao29, co29, eo29⟩ := Kd.R_slice HO156.out; subst eo29; obtain ⟨Ao30, co30, eo30⟩ := Kd.R_slice HO171.out; subst eo30) | ((with_reducible refine gate_callee (f := 10) rfl ?_); refine goesL_ (some 21) rfl rfl Try.func10 (by kernel_rfl) rfl #[.slice Ao29 t154.length co29, .slice Ao30 t169.length co30] rfl (by (try simp only [List.map_toArray, List.map_cons, List.map_nil]); first | done | rfl | (simp only [List.length_drop, List.length_take]; rfl)) ?_; (with_reducible refine (entrepotref07_Ints.calls kj2 _ _ t154 _ _ t169 true _ ?side1 ?side2 ?side3 ?side4 A19.out).mono ?_); (case side1 => repeat (first | exact (Kd.R_reads' HO156.out).2.2 | (with_reducible refine Kd.C_alloc ?_ _) | (with_reducible refine Kd.C_drewN ?_ _) | (with_reducible refine Kd.C_drew ?_))); (case side2 => exact (Kd.R_reads' HO156.out).2.1); (case side3 => repeat (first | exact (Kd.R_reads' HO171.out).2.2 | (with_reducible refine Kd.C_alloc ?_ _) | (with_reducible refine Kd.C_drewN ?_ _) | (with_reducible refine Kd.C_drew ?_))); (case side4 => exact (Kd.R_reads' HO171.out).2.1); rintro e w' ⟨rfl, ⟨nd, rfl⟩⟩; refine ⟨_, rfl, ?_⟩; have hcz31_0 : w28.cell? ⟨gb150, 0, none⟩ = some (.string a1_0) := (blk_cell BK150.out 0).trans rfl; have hcz31_1 : w28.cell? ⟨gb150, 1, none⟩ = some (.int .i64 a1_1) := (blk_cell BK150.out 1).trans rfl; have hcz31_2 : w28.cell? ⟨gb150, 2, none⟩ = some (.int .i64 a1_2) := (blk_cell BK150.out 2).trans rfl; have hcz31_3 : w28.cell? ⟨gb150, 3, none⟩ = some (.int .i64 a1_3) := (blk_cell BK150.out 3).trans rfl; have hcz31_4 : w28.cell? ⟨gb150, 4, none⟩ = some (.int .i64 a1_4) := (blk_cell BK150.out 4).trans rfl; have hcz31_5 : w28.cell? ⟨gb150, 5, none⟩ = some (.int .i64 a1_5) := (blk_cell BK150.out 5).trans rfl; have hcz31_6 : w28.cell? ⟨gb150, 6, none⟩ = some (.slice A1_6 l1_6.length c1_6) := (blk_cell BK150.out 6).trans rfl; have hcz31_7 : w28.cell? ⟨gb150, 7, none⟩ = some (.slice A1_7 l1_7.length c1_7) := (blk_cell BK150.out 7).trans rfl; have hfz31_0 := blk_frozen BK150.out 0; have hfz31_1 := blk_frozen BK150.out 1; have hfz31_2 := blk_frozen BK150.out 2; have hfz31_3 := blk_frozen BK150.out 3; have hfz31_4 := blk_frozen BK150.out 4; have hfz31_5 := blk_frozen BK150.out 5; have hfz31_6 := blk_frozen BK150.out 6; have hfz31_7 := blk_frozen BK150.out 7) | (go_at_call 13; (with_reducible refine (express_Can.calls a0 a1_0 a1_1 a1_2 a1_3 a1_4 a1_5 _ _ l1_6 _ _ l1_7 t173 _ ?side1 ?side2 ?side3 ?side4 A21.out).mono ?_); (case side1 => repeat (first | exact (Kd.C_below HR1_6.out (by repeat (first | (with_reducible first | exact HB.out | apply below_alloc | apply pw_below_drewN | apply below_drew1 | refine below_set ?_ GE150.out) | exact HB.out))) | (with_reducible refine Kd.C_alloc ?_ _) | (with_reducible refine Kd.C_drewN ?_ _) | (with_reducible refine Kd.C_drew ?_))); (case side2 => exact HC1_6.out); (case side3 => repeat (first | exact (Kd.C_below HR1_7.out (by repeat (first | (with_reducible first | exact HB.out | apply below_alloc | apply pw_below_drewN | apply below_drew1 | refine below_set ?_ GE150.out) | exact HB.out))) | (with_reducible refine Kd.C_alloc ?_ _) | (with_reducible refine Kd.C_drewN ?_ _) | (with_reducible refine Kd.C_drew ?_))); (case side4 => exact HC1_7.out); rintro e w32 ⟨rfl, hb⟩; have n0_ := Aside0.mk (Kd.R_below (by (with_reducible repeat (first | apply Kd.R_alloc | apply Kd.R_drewN | apply Kd.R_drew)); exact HO156.out) hb); have n1_ := Aside0.mk (Kd.R_below (by (with_reducible repeat (first | apply Kd.R_alloc | apply Kd.R_drewN | apply Kd.R_drew)); exact HO165.out) hb); have n2_ := Aside0.mk (Kd.V_below (by (with_reducible repeat (first | apply Kd.V_alloc | apply Kd.V_drewN | apply Kd.V_drew)); exact HO168.out) hb); have n3_ := Aside0.mk (Kd.R_below (by (with_reducible repeat (first | apply Kd.R_alloc | apply Kd.R_drewN | apply Kd.R_drew)); exact HO171.out) hb); have n4_ := Aside0.mk (blk_below (g := gb150) (o := .cells #[.string a1_0, .int .i64 a1_1, .int .i64 a1_2, .int .i64 a1_3, .int .i64 a1_4, .int .i64 a1_5, .slice A1_6 l1_6.length c1_6, .slice A1_7 l1_7.length c1_7] 25 (0, 0)) (by (with_reducible repeat (first | refine blk_drewN ?_ _ | refine blk_drew ?_ | refine blk_alloc ?_ _)); exact BK150.out) hb); have n5_ := Aside0.mk (below_step (by repeat (first | (with_reducible first | exact HB.out | apply below_alloc | apply pw_below_drewN | apply below_drew1 | refine below_set ?_ GE150.out) | exact HB.out)) hb); clear HO156; clear HO165; clear HO168; clear HO171; clear BK150; clear HB; have HO156 := n0_; have HO165 := n1_; have HO168 := n2_; have HO171 := n3_; have BK150 := n4_; have HB := n5_; clear n0_ n1_ n2_ n3_ n4_ n5_; (try clear hb); (try clear hb2); (try clear hk); (try clear hi)))
     go_ret
     exact ⟨by first | rfl | (simp [errW_none, errW_some] <;> rfl) | (simp [*, errW_none, errW_some] <;> rfl), by repeat (first | (with_reducible first | exact HB.out | apply below_alloc | apply pw_below_drewN | apply below_drew1 | refine below_set ?_ GE150.out) | exact HB.out)⟩
    ·replace c20 := Bool.eq_false_iff.mpr c20
     subst c20
     have H1 : (some false) = some r := by rw [if_neg (show ¬ (false = true) by decide)] at H; exact H
     clear H
     have H := H1
     clear H1
     obtain rfl := Option.some.inj H
     have hcz33_0 : wc.cell? ⟨gb150, 0, none⟩ = some (.string a1_0) := (blk_cell BK150.out 0).trans rfl
     have hcz33_1 : wc.cell? ⟨gb150, 1, none⟩ = some (.int .i64 a1_1) := (blk_cell BK150.out 1).trans rfl
     have hcz33_2 : wc.cell? ⟨gb150, 2, none⟩ = some (.int .i64 a1_2) := (blk_cell BK150.out 2).trans rfl
     have hcz33_3 : wc.cell? ⟨gb150, 3, none⟩ = some (.int .i64 a1_3) := (blk_cell BK150.out 3).trans rfl
     have hcz33_4 : wc.cell? ⟨gb150, 4, none⟩ = some (.int .i64 a1_4) := (blk_cell BK150.out 4).trans rfl
     have hcz33_5 : wc.cell? ⟨gb150, 5, none⟩ = some (.int .i64 a1_5) := (blk_cell BK150.out 5).trans rfl
     have hcz33_6 : wc.cell? ⟨gb150, 6, none⟩ = some (.slice A1_6 l1_6.length c1_6) := (blk_cell BK150.out 6).trans rfl
     have hcz33_7 : wc.cell? ⟨gb150, 7, none⟩ = some (.slice A1_7 l1_7.length c1_7) := (blk_cell BK150.out 7).trans rfl
     have hfz33_0 := blk_frozen BK150.out 0
     have hfz33_1 := blk_frozen BK150.out 1
     have hfz33_2 := blk_frozen BK150.out 2
     have hfz33_3 := blk_frozen BK150.out 3
     have hfz33_4 := blk_frozen BK150.out 4
     have hfz33_5 := blk_frozen BK150.out 5
     have hfz33_6 := blk_frozen BK150.out 6
     have hfz33_7 := blk_frozen BK150.out 7
     go_wp2_with (first | ((with_reducible refine gate_callee (f := 9) rfl ?_); refine goesL_ (some 15) rfl rfl Try.func9 (by kernel_rfl) rfl #[.int .i64 a0, .agg #[.string a1_0, .int .i64 a1_1, .int .i64 a1_2, .int .i64 a1_3, .int .i64 a1_4, .int .i64 a1_5, .slice A1_6 l1_6.length c1_6, .slice A1_7 l1_7.length c1_7]] rfl (by (try simp only [List.map_toArray, List.map_cons, List.map_nil]); first | done | rfl | (simp only [List.length_drop, List.length_take]; rfl)) ?_; (with_reducible refine (express_Lacks.calls a0 a1_0 a1_1 a1_2 a1_3 a1_4 a1_5 _ _ l1_6 _ _ l1_7 t154 _ ?side1 ?side2 ?side3 ?side4 A16.out).mono ?_); (case side1 => repeat (first | exact (Kd.C_below HR1_6.out HB.out) | (with_reducible refine Kd.C_alloc ?_ _) | (with_reducible refine Kd.C_drewN ?_ _) | (with_reducible refine Kd.C_drew ?_))); (case side2 => exact HC1_6.out); (case side3 => repeat (first | exact (Kd.C_below HR1_7.out HB.out) | (with_reducible refine Kd.C_alloc ?_ _) | (with_reducible refine Kd.C_drewN ?_ _) | (with_reducible refine Kd.C_drew ?_))); (case side4 => exact HC1_7.out); rintro e w34 ⟨v155, rfl, ho0, hb⟩; refine ⟨_, rfl, ?_⟩; have n0_ := Aside0.mk (Kd.R_lower ho0 (below_size (by repeat (first | (with_reducible first | exact HB.out | apply below_alloc | apply pw_below_drewN | apply below_drew1 | refine below_set ?_ GE150.out) | exact HB.out)))); have n1_ := Aside0.mk (blk_below (g := gb150) (o := .cells #[.string a1_0, .int .i64 a1_1, .int .i64 a1_2, .int .i64 a1_3, .int .i64 a1_4, .int .i64 a1_5, .slice A1_6 l1_6.length c1_6, .slice A1_7 l1_7.length c1_7] 25 (0, 0)) (by (with_reducible repeat (first | refine blk_drewN ?_ _ | refine blk_drew ?_ | refine blk_alloc ?_ _)); exact BK150.out) hb); have n2_ := Aside0.mk (below_step (by repeat (first | (with_reducible first | exact HB.out | apply below_alloc | apply pw_below_drewN | apply below_drew1 | refine below_set ?_ GE150.out) | exact HB.out)) hb); clear BK150; clear HB; have HO156 := n0_; have BK150 := n1_; have HB := n2_; clear n0_ n1_ n2_; (try clear hb); (try clear hb2); (try clear hk); (try clear hi); (try clear ho0); have hcz35_0 : w34.cell? ⟨gb150, 0, none⟩ = some (.string a1_0) := (blk_cell BK150.out 0).trans rfl; have hcz35_1 : w34.cell? ⟨gb150, 1, none⟩ = some (.int .i64 a1_1) := (blk_cell BK150.out 1).trans rfl; have hcz35_2 : w34.cell? ⟨gb150, 2, none⟩ = some (.int .i64 a1_2) := (blk_cell BK150.out 2).trans rfl; have hcz35_3 : w34.cell? ⟨gb150, 3, none⟩ = some (.int .i64 a1_3) := (blk_cell BK150.out 3).trans rfl; have hcz35_4 : w34.cell? ⟨gb150, 4, none⟩ = some (.int .i64 a1_4) := (blk_cell BK150.out 4).trans rfl; have hcz35_5 : w34.cell? ⟨gb150, 5, none⟩ = some (.int .i64 a1_5) := (blk_cell BK150.out 5).trans rfl; have hcz35_6 : w34.cell? ⟨gb150, 6, none⟩ = some (.slice A1_6 l1_6.length c1_6) := (blk_cell BK150.out 6).trans rfl; have hcz35_7 : w34.cell? ⟨gb150, 7, none⟩ = some (.slice A1_7 l1_7.length c1_7) := (blk_cell BK150.out 7).trans rfl; have hfz35_0 := blk_frozen BK150.out 0; have hfz35_1 := blk_frozen BK150.out 1; have hfz35_2 := blk_frozen BK150.out 2; have hfz35_3 := blk_frozen BK150.out 3; have hfz35_4 := blk_frozen BK150.out 4; have hfz35_5 := blk_frozen BK150.out 5; have hfz35_6 := blk_frozen BK150.out 6; have hfz35_7 := blk_frozen BK150.out 7) | ((with_reducible refine gate_callee (f := 12) rfl ?_); refine goesL_ (some 19) rfl rfl Try.func12 (by kernel_rfl) rfl #[.agg #[.string a1_0, .int .i64 a1_1, .int .i64 a1_2, .int .i64 a1_3, .int .i64 a1_4, .int .i64 a1_5, .slice A1_6 l1_6.length c1_6, .slice A1_7 l1_7.length c1_7]] rfl (by (try simp only [List.map_toArray, List.map_cons, List.map_nil]); first | done | rfl | (simp only [List.length_drop, List.length_take]; rfl)) ?_; (with_reducible refine (entrepotlaw12_its.calls kj2 a1_0 a1_1 a1_2 a1_3 a1_4 a1_5 _ _ l1_6 (fun k_ => k_ < w.heap.size) _ _ l1_7 t157 t158 t159 t160 t161 t162 t163 t166 _ ?side1 ?side2 ?side3 A17.out).mono ?_); (case side1 => repeat (first | exact (Kd.C_below HR1_6.out HB.out) | (with_reducible refine Kd.C_alloc ?_ _) | (with_reducible refine Kd.C_drewN ?_ _) | (with_reducible refine Kd.C_drew ?_))); (case side2 => exact HC1_6.out); (case side3 => exact Kd.V_mk HC1_7.out (Kd.F_below (Kd.C_F (Kd.heap_int .i64) HR1_7.out) (by repeat (first | (with_reducible first | exact HB.out | apply below_alloc | apply pw_below_drewN | apply below_drew1 | refine below_set ?_ GE150.out) | exact HB.out)))); rintro e w36 ⟨v164, v167, rfl, ho0, ho1, hb⟩; refine ⟨_, rfl, ?_⟩; have n0_ := Aside0.mk (Kd.R_below (by (with_reducible repeat (first | apply Kd.R_alloc | apply Kd.R_drewN | apply Kd.R_drew)); exact HO156.out) hb); have n1_ := Aside0.mk (Kd.R_lower (Kd.R_mono (ok' := fun k_ => True) ho0 (fun _ hk_ => trivial)) (below_size (by repeat (first | (with_reducible first | exact HB.out | apply below_alloc | apply pw_below_drewN | apply below_drew1 | refine below_set ?_ GE150.out) | exact HB.out)))); have n2_ := Aside0.mk (Kd.V_lower (Kd.V_mono (ok' := fun k_ => some k_ ≠ (v164 : Value).ownBlock ∧ some k_ ≠ (v155 : Value).ownBlock ∧ k_ ≠ gb150) ho1 (fun k_ hk_ => ⟨hk_.2, Or.elim hk_.1 (fun hs_ => fun e_ => Nat.not_le.2 hs_ (Kd.R_base HO156.out k_ e_.symm)) (fun hn_ => (Kd.fresh' (Kd.R_lt (by (with_reducible repeat (first | apply Kd.R_alloc | apply Kd.R_drewN | apply Kd.R_drew)); exact HO156.out)) k_ hn_)), Or.elim hk_.1 (fun hs_ => fun e_ => Nat.not_le.2 hs_ (by rw [e_]; exact GW150.out)) (fun hn_ => (Kd.freshB (g := gb150) (o := .cells #[.string a1_0, .int .i64 a1_1, .int .i64 a1_2, .int .i64 a1_3, .int .i64 a1_4, .int .i64 a1_5, .slice A1_6 l1_6.length c1_6, .slice A1_7 l1_7.length c1_7] 25 (0, 0)) (by (with_reducible repeat (first | refine blk_drewN ?_ _ | refine blk_drew ?_ | refine blk_alloc ?_ _)); exact BK150.out) k_ hn_))⟩)) (below_size (by repeat (first | (with_reducible first | exact HB.out | apply below_alloc | apply pw_below_drewN | apply below_drew1 | refine below_set ?_ GE150.out) | exact HB.out)))); have n3_ := Aside0.mk (blk_below (g := gb150) (o := .cells #[.string a1_0, .int .i64 a1_1, .int .i64 a1_2, .int .i64 a1_3, .int .i64 a1_4, .int .i64 a1_5, .slice A1_6 l1_6.length c1_6, .slice A1_7 l1_7.length c1_7] 25 (0, 0)) (by (with_reducible repeat (first | refine blk_drewN ?_ _ | refine blk_drew ?_ | refine blk_alloc ?_ _)); exact BK150.out) hb); have n4_ := Aside0.mk (below_step (by repeat (first | (with_reducible first | exact HB.out | apply below_alloc | apply pw_below_drewN | apply below_drew1 | refine below_set ?_ GE150.out) | exact HB.out)) hb); clear HO156; clear BK150; clear HB; have HO156 := n0_; have HO165 := n1_; have HO168 := n2_; have BK150 := n3_; have HB := n4_; clear n0_ n1_ n2_ n3_ n4_; (try clear hb); (try clear hb2); (try clear hk); (try clear hi); (try clear ho0); (try clear ho1); obtain ⟨Ao37, co37, eo37⟩ := Kd.R_slice HO165.out; subst eo37; obtain ⟨Ao38, co38, eo38⟩ := Kd.V_slice HO168.out; subst eo38) | ((with_reducible refine gate_callee (f := 11) rfl ?_); refine goesL_ (some 20) rfl rfl Try.func11 (by kernel_rfl) rfl #[.int .i64 a0, .agg #[.string t157, .int .i64 t158, .int .i64 t159, .int .i64 t160, .int .i64 t161, .int .i64 t162, .slice Ao37 t163.length co37, .slice Ao38 t166.length co38]] rfl (by (try simp only [List.map_toArray, List.map_cons, List.map_nil]); first | done | rfl | (simp only [List.length_drop, List.length_take]; rfl)) ?_; (with_reducible refine (entrepotref12_Lacks.calls kj2 a0 t157 t158 t159 t160 t161 t162 _ _ t163 _ _ t166 t169 _ ?side1 ?side2 ?side3 ?side4 A18.out).mono ?_); (case side1 => repeat (first | exact (Kd.R_reads' HO165.out).2.2 | (with_reducible refine Kd.C_alloc ?_ _) | (with_reducible refine Kd.C_drewN ?_ _) | (with_reducible refine Kd.C_drew ?_))); (case side2 => exact (Kd.R_reads' HO165.out).2.1); (case side3 => repeat (first | exact (Kd.V_reads' HO168.out).2.2 | (with_reducible refine Kd.C_alloc ?_ _) | (with_reducible refine Kd.C_drewN ?_ _) | (with_reducible refine Kd.C_drew ?_))); (case side4 => exact (Kd.V_reads' HO168.out).2.1); rintro e w39 ⟨v170, rfl, ho0, hb⟩; refine ⟨_, rfl, ?_⟩; have n0_ := Aside0.mk (Kd.R_elder' (by (with_reducible repeat (first | apply Kd.R_alloc | apply Kd.R_drewN | apply Kd.R_drew)); exact HO156.out) (Kd.R_base ho0) hb); have n1_ := Aside0.mk (Kd.R_below (by (with_reducible repeat (first | apply Kd.R_alloc | apply Kd.R_drewN | apply Kd.R_drew)); exact HO165.out) hb); have n2_ := Aside0.mk (Kd.V_elder' (by (with_reducible repeat (first | apply Kd.V_alloc | apply Kd.V_drewN | apply Kd.V_drew)); exact HO168.out) (Kd.R_base ho0) hb); have n3_ := Aside0.mk (Kd.R_lower (Kd.R_new' ho0 (Kd.R_lt (by (with_reducible repeat (first | apply Kd.R_alloc | apply Kd.R_drewN | apply Kd.R_drew)); exact HO156.out))) (below_size (by repeat (first | (with_reducible first | exact HB.out | apply below_alloc | apply pw_below_drewN | apply below_drew1 | refine below_set ?_ GE150.out) | exact HB.out)))); have n4_ := Aside0.mk (blk_below (g := gb150) (o := .cells #[.string a1_0, .int .i64 a1_1, .int .i64 a1_2, .int .i64 a1_3, .int .i64 a1_4, .int .i64 a1_5, .slice A1_6 l1_6.length c1_6, .slice A1_7 l1_7.length c1_7] 25 (0, 0)) (by (with_reducible repeat (first | refine blk_drewN ?_ _ | refine blk_drew ?_ | refine blk_alloc ?_ _)); exact BK150.out) hb); have n5_ := Aside0.mk (below_step (by repeat (first | (with_reducible first | exact HB.out | apply below_alloc | apply pw_below_drewN | apply below_drew1 | refine below_set ?_ GE150.out) | exact HB.out)) hb); clear HO156; clear HO165; clear HO168; clear BK150; clear HB; have HO156 := n0_; have HO165 := n1_; have HO168 := n2_; have HO171 := n3_; have BK150 := n4_; have HB := n5_; clear n0_ n1_ n2_ n3_ n4_ n5_; (try clear hb); (try clear hb2); (try clear hk); (try clear hi); (try clear ho0); obtain ⟨Ao40, co40, eo40⟩ := Kd.R_slice HO156.out; subst eo40; obtain ⟨Ao41, co41, eo41⟩ := Kd.R_slice HO171.out; subst eo41) | ((with_reducible refine gate_callee (f := 10) rfl ?_); refine goesL_ (some 21) rfl rfl Try.func10 (by kernel_rfl) rfl #[.slice Ao40 t154.length co40, .slice Ao41 t169.length co41] rfl (by (try simp only [List.map_toArray, List.map_cons, List.map_nil]); first | done | rfl | (simp only [List.length_drop, List.length_take]; rfl)) ?_; (with_reducible refine (entrepotref07_Ints.calls kj2 _ _ t154 _ _ t169 false _ ?side1 ?side2 ?side3 ?side4 A19.out).mono ?_); (case side1 => repeat (first | exact (Kd.R_reads' HO156.out).2.2 | (with_reducible refine Kd.C_alloc ?_ _) | (with_reducible refine Kd.C_drewN ?_ _) | (with_reducible refine Kd.C_drew ?_))); (case side2 => exact (Kd.R_reads' HO156.out).2.1); (case side3 => repeat (first | exact (Kd.R_reads' HO171.out).2.2 | (with_reducible refine Kd.C_alloc ?_ _) | (with_reducible refine Kd.C_drewN ?_ _) | (with_reducible refine Kd.C_drew ?_))); (case side4 => exact (Kd.R_reads' HO171.out).2.1); rintro e w' ⟨rfl, ⟨nd, rfl⟩⟩; refine ⟨_, rfl, ?_⟩))
     go_ret
     exact ⟨by first | rfl | (simp [errW_none, errW_some] <;> rfl) | (simp [*, errW_none, errW_some] <;> rfl), by repeat (first | (with_reducible first | exact HB.out | apply below_alloc | apply pw_below_drewN | apply below_drew1 | refine below_set ?_ GE150.out) | exact HB.out)⟩

end Go.Proofs.Ytmapllahhpdedaa.P
