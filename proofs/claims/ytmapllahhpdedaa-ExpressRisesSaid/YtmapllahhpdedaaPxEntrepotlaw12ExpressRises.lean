/- Written by a program of this session, after the kit's print: Lean functions for Go functions, and the proof that the machine comes to their answers. -/
import Derived.Test.YtmapllahhpdedaaPx0
import Derived.Test.YtmapllahhpdedaaPxEntrepotlaw12long
import Derived.Test.YtmapllahhpdedaaPxEntrepotlaw12shown
import Derived.Test.YtmapllahhpdedaaGLacks
namespace Go.Proofs.Ytmapllahhpdedaa.P
open Go.RowKit Go.Proofs.YtmapllahhpdedaaW.PrintWords Go.Proofs.YtmapllahhpdedaaW.PrintLast Go.Proofs.YtmapllahhpdedaaW.PrintMore
attribute [local go_sem] max2_int min2_int max_two min_two max_three min_three max_four min_four   -- for this text's walks alone
set_option linter.unusedVariables false
set_option linter.unusedSimpArgs false

/-! ### entrepotlaw12_ExpressRises: function 6 -/
mutual
def entrepotlaw12_ExpressRises.j0 : Nat → Int → Bool → ByteArray → Int → Int → Int → Int → Int → List (S40) → List Int → Option (Bool)
  | 0, _, _, _, _, _, _, _, _, _, _ => none
  | k + 1, x0, x13, x251000, x251001, x251002, x251003, x251004, x251005, x251006, x251007 => if x13 = true then ((entrepotlaw12_shown.f).bind fun t253 => (some t253)) else ((express_Lacks.f x0 x251000 x251001 x251002 x251003 x251004 x251005 x251006 x251007).bind fun t254 => (entrepotlaw12_ExpressRises.l0 k x0 t254 0))
def entrepotlaw12_ExpressRises.l0 : Nat → Int → List Int → Int → Option (Bool)
  | 0, _, _, _ => none
  | k + 1, x0, x5, x6 => if x6 < (x5.length : Int) then (if 0 ≤ x6 then (if (rd x5 x6) < 1 then (some false) else (if (rd x5 x6) > 13 then (some false) else (if x6 > 0 then (if 0 ≤ (wrap64 (x6 - 1)) then (if (wrap64 (x6 - 1)) < (x5.length : Int) then (if (rd x5 x6) ≤ (rd x5 (wrap64 (x6 - 1))) then (some false) else (entrepotlaw12_ExpressRises.l0 k x0 x5 (wrap64 (x6 + 1)))) else (none)) else (none)) else (entrepotlaw12_ExpressRises.l0 k x0 x5 (wrap64 (x6 + 1)))))) else (none)) else (if x0 ≥ 1 then (if (((x5.length : Int) == 13) == (!(decide (x0 ≤ 5)))) = true then (if x0 = 4 then (some ((x5.length : Int) == 0)) else (if x0 = 5 then (some ((x5.length : Int) == 0)) else (some true))) else (some false)) else (if (((x5.length : Int) == 13) == (!false)) = true then (if x0 = 4 then (some ((x5.length : Int) == 0)) else (if x0 = 5 then (some ((x5.length : Int) == 0)) else (some true))) else (some false)))
end
def entrepotlaw12_ExpressRises.f (k : Nat) (a0 : Int) (a1_0 : ByteArray) (a1_1 : Int) (a1_2 : Int) (a1_3 : Int) (a1_4 : Int) (a1_5 : Int) (l1_6 : List (S40)) (l1_7 : List Int) : Option (Bool) := (entrepotlaw12_long.f a1_0 a1_1 a1_2 a1_3 a1_4 a1_5 l1_6 l1_7).bind fun t251 => (if t251 = true then (entrepotlaw12_ExpressRises.j0 k a0 true a1_0 a1_1 a1_2 a1_3 a1_4 a1_5 l1_6 l1_7) else ((entrepotlaw12_shown.f).bind fun t252 => (entrepotlaw12_ExpressRises.j0 k a0 (!t252) a1_0 a1_1 a1_2 a1_3 a1_4 a1_5 l1_6 l1_7)))
theorem entrepotlaw12_ExpressRises.mono_l : ∀ k, (∀ y0 y1 y2 y3 y4 y5 y6 y7 y8 y9, LeO (entrepotlaw12_ExpressRises.j0 k y0 y1 y2 y3 y4 y5 y6 y7 y8 y9) (entrepotlaw12_ExpressRises.j0 (k + 1) y0 y1 y2 y3 y4 y5 y6 y7 y8 y9)) ∧ (∀ y0 y1 y2, LeO (entrepotlaw12_ExpressRises.l0 k y0 y1 y2) (entrepotlaw12_ExpressRises.l0 (k + 1) y0 y1 y2))
  | 0 => ⟨fun _ _ _ _ _ _ _ _ _ _ r h => by simp [entrepotlaw12_ExpressRises.j0] at h, fun _ _ _ r h => by simp [entrepotlaw12_ExpressRises.l0] at h⟩
  | k + 1 => by
    obtain ⟨ih0, ih1⟩ := entrepotlaw12_ExpressRises.mono_l k
    refine ⟨?_, ?_⟩
    · intro y0 y1 y2 y3 y4 y5 y6 y7 y8 y9
      unfold entrepotlaw12_ExpressRises.j0
      repeat' first
      | (with_reducible exact ih0 _ _ _ _ _ _ _ _ _ _)
      | (with_reducible exact ih1 _ _ _)
      | (with_reducible exact LeO.refl _)
      | (with_reducible exact LeO.none _)
      | (with_reducible refine LeO.ite ?_ ?_)
      | (with_reducible refine LeO.bind ?_ (fun _ => ?_))
      | exact ih0 _ _ _ _ _ _ _ _ _ _
      | exact ih1 _ _ _
      | exact LeO.none _
      | refine LeO.ite ?_ ?_
      | refine LeO.bind ?_ (fun _ => ?_)
    · intro y0 y1 y2
      unfold entrepotlaw12_ExpressRises.l0
      repeat' first
      | (with_reducible exact ih0 _ _ _ _ _ _ _ _ _ _)
      | (with_reducible exact ih1 _ _ _)
      | (with_reducible exact LeO.refl _)
      | (with_reducible exact LeO.none _)
      | (with_reducible refine LeO.ite ?_ ?_)
      | (with_reducible refine LeO.bind ?_ (fun _ => ?_))
      | exact ih0 _ _ _ _ _ _ _ _ _ _
      | exact ih1 _ _ _
      | exact LeO.none _
      | refine LeO.ite ?_ ?_
      | refine LeO.bind ?_ (fun _ => ?_)
theorem entrepotlaw12_ExpressRises.mono : ∀ a0 a1 a2 a3 a4 a5 a6 a7 a8 k, LeO (entrepotlaw12_ExpressRises.f k a0 a1 a2 a3 a4 a5 a6 a7 a8) (entrepotlaw12_ExpressRises.f (k + 1) a0 a1 a2 a3 a4 a5 a6 a7 a8) := by
  intro a0 a1 a2 a3 a4 a5 a6 a7 a8 k
  obtain ⟨ih0, ih1⟩ := entrepotlaw12_ExpressRises.mono_l k
  unfold entrepotlaw12_ExpressRises.f
  repeat' first
      | (with_reducible exact ih0 _ _ _ _ _ _ _ _ _ _)
      | (with_reducible exact ih1 _ _ _)
      | (with_reducible exact LeO.refl _)
      | (with_reducible exact LeO.none _)
      | (with_reducible refine LeO.ite ?_ ?_)
      | (with_reducible refine LeO.bind ?_ (fun _ => ?_))
      | exact ih0 _ _ _ _ _ _ _ _ _ _
      | exact ih1 _ _ _
      | exact LeO.none _
      | refine LeO.ite ?_ ?_
      | refine LeO.bind ?_ (fun _ => ?_)
set_option maxHeartbeats 8000000 in
set_option maxRecDepth 100000 in
theorem entrepotlaw12_ExpressRises.calls (k : Nat) (a0 : Int) (a1_0 : ByteArray) (a1_1 : Int) (a1_2 : Int) (a1_3 : Int) (a1_4 : Int) (a1_5 : Int) (A1_6 : Option Addr) (c1_6 : Nat) (l1_6 : List (S40)) (A1_7 : Option Addr) (c1_7 : Nat) (l1_7 : List Int) (r : Bool) (w : World) (hr1_6 : Kd.C k40 w A1_6 l1_6.length l1_6) (hc1_6 : l1_6.length ≤ c1_6) (hr1_7 : Kd.C (Kd.int .i64) w A1_7 l1_7.length l1_7) (hc1_7 : l1_7.length ≤ c1_7) (h : entrepotlaw12_ExpressRises.f k a0 a1_0 a1_1 a1_2 a1_3 a1_4 a1_5 l1_6 l1_7 = some r) :
    Calls Try.prog 6 #[.int .i64 a0, .agg #[.string a1_0, .int .i64 a1_1, .int .i64 a1_2, .int .i64 a1_3, .int .i64 a1_4, .int .i64 a1_5, .slice A1_6 l1_6.length c1_6, .slice A1_7 l1_7.length c1_7]] w fun e w' => e = .returned (.bool r) ∧ Below w.heap.size w w' := by
  have hu25 := Try.underlying25
  have HR1_6 := Aside0.mk hr1_6
  have HC1_6 := Aside0.mk hc1_6
  clear hr1_6 hc1_6
  have HR1_7 := Aside0.mk hr1_7
  have HC1_7 := Aside0.mk hc1_7
  clear hr1_7 hc1_7
  have HB := Aside0.mk (Below.refl w.heap.size w)
  have H : ((entrepotlaw12_long.f a1_0 a1_1 a1_2 a1_3 a1_4 a1_5 l1_6 l1_7).bind fun t251 => (if t251 = true then (entrepotlaw12_ExpressRises.j0 k a0 true a1_0 a1_1 a1_2 a1_3 a1_4 a1_5 l1_6 l1_7) else ((entrepotlaw12_shown.f).bind fun t252 => (entrepotlaw12_ExpressRises.j0 k a0 (!t252) a1_0 a1_1 a1_2 a1_3 a1_4 a1_5 l1_6 l1_7)))) = some r := h
  clear h
  have HC3 := Aside0.mk H
  clear H
  go_enter Try.func6, Try.ntmps6
  go_upto_region 1 with (first | ((with_reducible refine gate_dst (N := 3) rfl ?_); (try (refine gate_guard (by rfl) ?_; dsimp only)); refine box_event ?hg (N := 3) ?hd (cs := #[.string a1_0, .int .i64 a1_1, .int .i64 a1_2, .int .i64 a1_3, .int .i64 a1_4, .int .i64 a1_5, .slice A1_6 l1_6.length c1_6, .slice A1_7 l1_7.length c1_7]) (t := 25) ?hr ?_; (case hd => rfl); (case hg => rfl); (case hr => first | (go_simp; done) | (go_simp; rfl)); intro gb250 hg w4 hbox hb; have n0_ := Aside0.mk (below_step (by repeat (first | (with_reducible first | exact HB.out | apply below_alloc | apply pw_below_drewN | apply below_drew1) | exact HB.out)) hb); have n1_ := Aside0.mk (hbox); have n2_ := Aside0.mk ((by rw [hg]; exact (below_size (by repeat (first | (with_reducible first | exact HB.out | apply below_alloc | apply pw_below_drewN | apply below_drew1) | exact HB.out))) : w.heap.size ≤ gb250)); have n3_ := Aside0.mk ((by rw [hg]; exact (below_size (by repeat (first | (with_reducible first | exact HB.out | apply below_alloc | apply pw_below_drewN | apply below_drew1) | exact HB.out))) : w.heap.size ≤ gb250)); clear HB; have HB := n0_; have BK250 := n1_; have GW250 := n2_; have GE250 := n3_; clear n0_ n1_ n2_ n3_; clear hb hbox hg))
  repeat (go_quiet (first | ((with_reducible refine gate_dst (N := 3) rfl ?_); (try (refine gate_guard (by rfl) ?_; dsimp only)); refine box_event ?hg (N := 3) ?hd (cs := #[.string a1_0, .int .i64 a1_1, .int .i64 a1_2, .int .i64 a1_3, .int .i64 a1_4, .int .i64 a1_5, .slice A1_6 l1_6.length c1_6, .slice A1_7 l1_7.length c1_7]) (t := 25) ?hr ?_; (case hd => rfl); (case hg => rfl); (case hr => first | (go_simp; done) | (go_simp; rfl)); intro gb250 hg w4 hbox hb; have n0_ := Aside0.mk (below_step (by repeat (first | (with_reducible first | exact HB.out | apply below_alloc | apply pw_below_drewN | apply below_drew1) | exact HB.out)) hb); have n1_ := Aside0.mk (hbox); have n2_ := Aside0.mk ((by rw [hg]; exact (below_size (by repeat (first | (with_reducible first | exact HB.out | apply below_alloc | apply pw_below_drewN | apply below_drew1) | exact HB.out))) : w.heap.size ≤ gb250)); have n3_ := Aside0.mk ((by rw [hg]; exact (below_size (by repeat (first | (with_reducible first | exact HB.out | apply below_alloc | apply pw_below_drewN | apply below_drew1) | exact HB.out))) : w.heap.size ≤ gb250)); clear HB; have HB := n0_; have BK250 := n1_; have GW250 := n2_; have GE250 := n3_; clear n0_ n1_ n2_ n3_; clear hb hbox hg)); go_upto_region 1 with (first | ((with_reducible refine gate_dst (N := 3) rfl ?_); (try (refine gate_guard (by rfl) ?_; dsimp only)); refine box_event ?hg (N := 3) ?hd (cs := #[.string a1_0, .int .i64 a1_1, .int .i64 a1_2, .int .i64 a1_3, .int .i64 a1_4, .int .i64 a1_5, .slice A1_6 l1_6.length c1_6, .slice A1_7 l1_7.length c1_7]) (t := 25) ?hr ?_; (case hd => rfl); (case hg => rfl); (case hr => first | (go_simp; done) | (go_simp; rfl)); intro gb250 hg w4 hbox hb; have n0_ := Aside0.mk (below_step (by repeat (first | (with_reducible first | exact HB.out | apply below_alloc | apply pw_below_drewN | apply below_drew1) | exact HB.out)) hb); have n1_ := Aside0.mk (hbox); have n2_ := Aside0.mk ((by rw [hg]; exact (below_size (by repeat (first | (with_reducible first | exact HB.out | apply below_alloc | apply pw_below_drewN | apply below_drew1) | exact HB.out))) : w.heap.size ≤ gb250)); have n3_ := Aside0.mk ((by rw [hg]; exact (below_size (by repeat (first | (with_reducible first | exact HB.out | apply below_alloc | apply pw_below_drewN | apply below_drew1) | exact HB.out))) : w.heap.size ≤ gb250)); clear HB; have HB := n0_; have BK250 := n1_; have GW250 := n2_; have GE250 := n3_; clear n0_ n1_ n2_ n3_; clear hb hbox hg)))
  (try simp only [Act.put, List.setIfInBounds_toArray, List.set_cons_zero, List.set_cons_succ])
  go_cut [13] (fun v13 wc => ∃ (kq : Nat) (x13_2 : Bool), v13 = .bool x13_2 ∧ Aside0 (entrepotlaw12_ExpressRises.j0 kq a0 x13_2 a1_0 a1_1 a1_2 a1_3 a1_4 a1_5 l1_6 l1_7 = some r) ∧ Aside0 (kq ≤ k) ∧ Aside0 (wc.heap[gb250]? = some (.cells #[.string a1_0, .int .i64 a1_1, .int .i64 a1_2, .int .i64 a1_3, .int .i64 a1_4, .int .i64 a1_5, (.slice A1_6 l1_6.length c1_6), (.slice A1_7 l1_7.length c1_7)] 25 (0, 0))) ∧ Aside0 (Below w.heap.size w wc))
  case first =>
    have H := HC3.out
    clear HC3
    replace H := Option.bind_eq_some_iff.mp H
    obtain ⟨t251, A50, H⟩ := H
    replace H : (if t251 = true then (entrepotlaw12_ExpressRises.j0 k a0 true a1_0 a1_1 a1_2 a1_3 a1_4 a1_5 l1_6 l1_7) else ((entrepotlaw12_shown.f).bind fun t252 => (entrepotlaw12_ExpressRises.j0 k a0 (!t252) a1_0 a1_1 a1_2 a1_3 a1_4 a1_5 l1_6 l1_7))) = some r := H
    have A5 := Aside0.mk A50
    clear A50
    by_cases c6 : t251 = true
    · subst c6
      have H1 : (entrepotlaw12_ExpressRises.j0 k a0 true a1_0 a1_1 a1_2 a1_3 a1_4 a1_5 l1_6 l1_7) = some r := by rw [if_pos rfl] at H; exact H
      clear H
      have H := H1
      clear H1
      have H' := Aside0.mk H
      clear H
      have hcz7_0 : w4.cell? ⟨gb250, 0, none⟩ = some (.string a1_0) := (blk_cell BK250.out 0).trans rfl
      have hcz7_1 : w4.cell? ⟨gb250, 1, none⟩ = some (.int .i64 a1_1) := (blk_cell BK250.out 1).trans rfl
      have hcz7_2 : w4.cell? ⟨gb250, 2, none⟩ = some (.int .i64 a1_2) := (blk_cell BK250.out 2).trans rfl
      have hcz7_3 : w4.cell? ⟨gb250, 3, none⟩ = some (.int .i64 a1_3) := (blk_cell BK250.out 3).trans rfl
      have hcz7_4 : w4.cell? ⟨gb250, 4, none⟩ = some (.int .i64 a1_4) := (blk_cell BK250.out 4).trans rfl
      have hcz7_5 : w4.cell? ⟨gb250, 5, none⟩ = some (.int .i64 a1_5) := (blk_cell BK250.out 5).trans rfl
      have hcz7_6 : w4.cell? ⟨gb250, 6, none⟩ = some (.slice A1_6 l1_6.length c1_6) := (blk_cell BK250.out 6).trans rfl
      have hcz7_7 : w4.cell? ⟨gb250, 7, none⟩ = some (.slice A1_7 l1_7.length c1_7) := (blk_cell BK250.out 7).trans rfl
      have hfz7_0 := blk_frozen BK250.out 0
      have hfz7_1 := blk_frozen BK250.out 1
      have hfz7_2 := blk_frozen BK250.out 2
      have hfz7_3 := blk_frozen BK250.out 3
      have hfz7_4 := blk_frozen BK250.out 4
      have hfz7_5 := blk_frozen BK250.out 5
      have hfz7_6 := blk_frozen BK250.out 6
      have hfz7_7 := blk_frozen BK250.out 7
      go_wp2_with (first | (go_at_call 7; (with_reducible refine (entrepotlaw12_long.calls a1_0 a1_1 a1_2 a1_3 a1_4 a1_5 _ _ l1_6 _ _ l1_7 true _ ?side1 ?side2 ?side3 ?side4 A5.out).mono ?_); (case side1 => repeat (first | exact (Kd.C_below HR1_6.out HB.out) | (with_reducible refine Kd.C_alloc ?_ _) | (with_reducible refine Kd.C_drewN ?_ _) | (with_reducible refine Kd.C_drew ?_))); (case side2 => exact HC1_6.out); (case side3 => repeat (first | exact (Kd.C_below HR1_7.out HB.out) | (with_reducible refine Kd.C_alloc ?_ _) | (with_reducible refine Kd.C_drewN ?_ _) | (with_reducible refine Kd.C_drew ?_))); (case side4 => exact HC1_7.out); rintro e w8 ⟨rfl, hb⟩; have n0_ := Aside0.mk (blk_below (g := gb250) (o := .cells #[.string a1_0, .int .i64 a1_1, .int .i64 a1_2, .int .i64 a1_3, .int .i64 a1_4, .int .i64 a1_5, .slice A1_6 l1_6.length c1_6, .slice A1_7 l1_7.length c1_7] 25 (0, 0)) (by (with_reducible repeat (first | refine blk_drewN ?_ _ | refine blk_drew ?_ | refine blk_alloc ?_ _)); exact BK250.out) hb); have n1_ := Aside0.mk (below_step (by repeat (first | (with_reducible first | exact HB.out | apply below_alloc | apply pw_below_drewN | apply below_drew1 | refine below_set ?_ GE250.out) | exact HB.out)) hb); clear BK250; clear HB; have BK250 := n0_; have HB := n1_; clear n0_ n1_; (try clear hb); (try clear hb2); (try clear hk); (try clear hi)))
      repeat (go_quiet (first | (go_at_call 7; (with_reducible refine (entrepotlaw12_long.calls a1_0 a1_1 a1_2 a1_3 a1_4 a1_5 _ _ l1_6 _ _ l1_7 true _ ?side1 ?side2 ?side3 ?side4 A5.out).mono ?_); (case side1 => repeat (first | exact (Kd.C_below HR1_6.out HB.out) | (with_reducible refine Kd.C_alloc ?_ _) | (with_reducible refine Kd.C_drewN ?_ _) | (with_reducible refine Kd.C_drew ?_))); (case side2 => exact HC1_6.out); (case side3 => repeat (first | exact (Kd.C_below HR1_7.out HB.out) | (with_reducible refine Kd.C_alloc ?_ _) | (with_reducible refine Kd.C_drewN ?_ _) | (with_reducible refine Kd.C_drew ?_))); (case side4 => exact HC1_7.out); rintro e w8 ⟨rfl, hb⟩; have n0_ := Aside0.mk (blk_below (g := gb250) (o := .cells #[.string a1_0, .int .i64 a1_1, .int .i64 a1_2, .int .i64 a1_3, .int .i64 a1_4, .int .i64 a1_5, .slice A1_6 l1_6.length c1_6, .slice A1_7 l1_7.length c1_7] 25 (0, 0)) (by (with_reducible repeat (first | refine blk_drewN ?_ _ | refine blk_drew ?_ | refine blk_alloc ?_ _)); exact BK250.out) hb); have n1_ := Aside0.mk (below_step (by repeat (first | (with_reducible first | exact HB.out | apply below_alloc | apply pw_below_drewN | apply below_drew1 | refine below_set ?_ GE250.out) | exact HB.out)) hb); clear BK250; clear HB; have BK250 := n0_; have HB := n1_; clear n0_ n1_; (try clear hb); (try clear hb2); (try clear hk); (try clear hi))); try go_wp2_with (first | (go_at_call 7; (with_reducible refine (entrepotlaw12_long.calls a1_0 a1_1 a1_2 a1_3 a1_4 a1_5 _ _ l1_6 _ _ l1_7 true _ ?side1 ?side2 ?side3 ?side4 A5.out).mono ?_); (case side1 => repeat (first | exact (Kd.C_below HR1_6.out HB.out) | (with_reducible refine Kd.C_alloc ?_ _) | (with_reducible refine Kd.C_drewN ?_ _) | (with_reducible refine Kd.C_drew ?_))); (case side2 => exact HC1_6.out); (case side3 => repeat (first | exact (Kd.C_below HR1_7.out HB.out) | (with_reducible refine Kd.C_alloc ?_ _) | (with_reducible refine Kd.C_drewN ?_ _) | (with_reducible refine Kd.C_drew ?_))); (case side4 => exact HC1_7.out); rintro e w8 ⟨rfl, hb⟩; have n0_ := Aside0.mk (blk_below (g := gb250) (o := .cells #[.string a1_0, .int .i64 a1_1, .int .i64 a1_2, .int .i64 a1_3, .int .i64 a1_4, .int .i64 a1_5, .slice A1_6 l1_6.length c1_6, .slice A1_7 l1_7.length c1_7] 25 (0, 0)) (by (with_reducible repeat (first | refine blk_drewN ?_ _ | refine blk_drew ?_ | refine blk_alloc ?_ _)); exact BK250.out) hb); have n1_ := Aside0.mk (below_step (by repeat (first | (with_reducible first | exact HB.out | apply below_alloc | apply pw_below_drewN | apply below_drew1 | refine below_set ?_ GE250.out) | exact HB.out)) hb); clear BK250; clear HB; have BK250 := n0_; have HB := n1_; clear n0_ n1_; (try clear hb); (try clear hb2); (try clear hk); (try clear hi))))
      go_meet
      case rel => exact ⟨_, (true), (by first | rfl | (simp; done) | (simp [*]; done)), H', ⟨by first | omega | exact Nat.le_refl _⟩, ⟨by (with_reducible repeat (first | refine blk_drewN ?_ _ | refine blk_drew ?_ | refine blk_alloc ?_ _)); exact BK250.out⟩, ⟨by repeat (first | (with_reducible first | exact HB.out | apply below_alloc | apply pw_below_drewN | apply below_drew1 | refine below_set ?_ GE250.out) | exact HB.out)⟩⟩
    · replace c6 := Bool.eq_false_iff.mpr c6
      subst c6
      have H1 : ((entrepotlaw12_shown.f).bind fun t252 => (entrepotlaw12_ExpressRises.j0 k a0 (!t252) a1_0 a1_1 a1_2 a1_3 a1_4 a1_5 l1_6 l1_7)) = some r := by rw [if_neg (show ¬ (false = true) by decide)] at H; exact H
      clear H
      have H := H1
      clear H1
      replace H := Option.bind_eq_some_iff.mp H
      obtain ⟨t252, A90, H⟩ := H
      replace H : (entrepotlaw12_ExpressRises.j0 k a0 (!t252) a1_0 a1_1 a1_2 a1_3 a1_4 a1_5 l1_6 l1_7) = some r := H
      have A9 := Aside0.mk A90
      clear A90
      have H' := Aside0.mk H
      clear H
      have hcz10_0 : w4.cell? ⟨gb250, 0, none⟩ = some (.string a1_0) := (blk_cell BK250.out 0).trans rfl
      have hcz10_1 : w4.cell? ⟨gb250, 1, none⟩ = some (.int .i64 a1_1) := (blk_cell BK250.out 1).trans rfl
      have hcz10_2 : w4.cell? ⟨gb250, 2, none⟩ = some (.int .i64 a1_2) := (blk_cell BK250.out 2).trans rfl
      have hcz10_3 : w4.cell? ⟨gb250, 3, none⟩ = some (.int .i64 a1_3) := (blk_cell BK250.out 3).trans rfl
      have hcz10_4 : w4.cell? ⟨gb250, 4, none⟩ = some (.int .i64 a1_4) := (blk_cell BK250.out 4).trans rfl
      have hcz10_5 : w4.cell? ⟨gb250, 5, none⟩ = some (.int .i64 a1_5) := (blk_cell BK250.out 5).trans rfl
      have hcz10_6 : w4.cell? ⟨gb250, 6, none⟩ = some (.slice A1_6 l1_6.length c1_6) := (blk_cell BK250.out 6).trans rfl
      have hcz10_7 : w4.cell? ⟨gb250, 7, none⟩ = some (.slice A1_7 l1_7.length c1_7) := (blk_cell BK250.out 7).trans rfl
      have hfz10_0 := blk_frozen BK250.out 0
      have hfz10_1 := blk_frozen BK250.out 1
      have hfz10_2 := blk_frozen BK250.out 2
      have hfz10_3 := blk_frozen BK250.out 3
      have hfz10_4 := blk_frozen BK250.out 4
      have hfz10_5 := blk_frozen BK250.out 5
      have hfz10_6 := blk_frozen BK250.out 6
      have hfz10_7 := blk_frozen BK250.out 7
      go_wp2_with (first | (go_at_call 7; (with_reducible refine (entrepotlaw12_long.calls a1_0 a1_1 a1_2 a1_3 a1_4 a1_5 _ _ l1_6 _ _ l1_7 false _ ?side1 ?side2 ?side3 ?side4 A5.out).mono ?_); (case side1 => repeat (first | exact (Kd.C_below HR1_6.out HB.out) | (with_reducible refine Kd.C_alloc ?_ _) | (with_reducible refine Kd.C_drewN ?_ _) | (with_reducible refine Kd.C_drew ?_))); (case side2 => exact HC1_6.out); (case side3 => repeat (first | exact (Kd.C_below HR1_7.out HB.out) | (with_reducible refine Kd.C_alloc ?_ _) | (with_reducible refine Kd.C_drewN ?_ _) | (with_reducible refine Kd.C_drew ?_))); (case side4 => exact HC1_7.out); rintro e w11 ⟨rfl, hb⟩; have n0_ := Aside0.mk (blk_below (g := gb250) (o := .cells #[.string a1_0, .int .i64 a1_1, .int .i64 a1_2, .int .i64 a1_3, .int .i64 a1_4, .int .i64 a1_5, .slice A1_6 l1_6.length c1_6, .slice A1_7 l1_7.length c1_7] 25 (0, 0)) (by (with_reducible repeat (first | refine blk_drewN ?_ _ | refine blk_drew ?_ | refine blk_alloc ?_ _)); exact BK250.out) hb); have n1_ := Aside0.mk (below_step (by repeat (first | (with_reducible first | exact HB.out | apply below_alloc | apply pw_below_drewN | apply below_drew1 | refine below_set ?_ GE250.out) | exact HB.out)) hb); clear BK250; clear HB; have BK250 := n0_; have HB := n1_; clear n0_ n1_; (try clear hb); (try clear hb2); (try clear hk); (try clear hi)) | (go_at_call 8; (with_reducible refine (entrepotlaw12_shown.calls  t252 _ A9.out).mono ?_); rintro e w12 ⟨rfl, hb⟩; have n0_ := Aside0.mk (blk_below (g := gb250) (o := .cells #[.string a1_0, .int .i64 a1_1, .int .i64 a1_2, .int .i64 a1_3, .int .i64 a1_4, .int .i64 a1_5, .slice A1_6 l1_6.length c1_6, .slice A1_7 l1_7.length c1_7] 25 (0, 0)) (by (with_reducible repeat (first | refine blk_drewN ?_ _ | refine blk_drew ?_ | refine blk_alloc ?_ _)); exact BK250.out) hb); have n1_ := Aside0.mk (below_step (by repeat (first | (with_reducible first | exact HB.out | apply below_alloc | apply pw_below_drewN | apply below_drew1 | refine below_set ?_ GE250.out) | exact HB.out)) hb); clear BK250; clear HB; have BK250 := n0_; have HB := n1_; clear n0_ n1_; (try clear hb); (try clear hb2); (try clear hk); (try clear hi)))
      repeat (go_quiet (first | (go_at_call 7; (with_reducible refine (entrepotlaw12_long.calls a1_0 a1_1 a1_2 a1_3 a1_4 a1_5 _ _ l1_6 _ _ l1_7 false _ ?side1 ?side2 ?side3 ?side4 A5.out).mono ?_); (case side1 => repeat (first | exact (Kd.C_below HR1_6.out HB.out) | (with_reducible refine Kd.C_alloc ?_ _) | (with_reducible refine Kd.C_drewN ?_ _) | (with_reducible refine Kd.C_drew ?_))); (case side2 => exact HC1_6.out); (case side3 => repeat (first | exact (Kd.C_below HR1_7.out HB.out) | (with_reducible refine Kd.C_alloc ?_ _) | (with_reducible refine Kd.C_drewN ?_ _) | (with_reducible refine Kd.C_drew ?_))); (case side4 => exact HC1_7.out); rintro e w11 ⟨rfl, hb⟩; have n0_ := Aside0.mk (blk_below (g := gb250) (o := .cells #[.string a1_0, .int .i64 a1_1, .int .i64 a1_2, .int .i64 a1_3, .int .i64 a1_4, .int .i64 a1_5, .slice A1_6 l1_6.length c1_6, .slice A1_7 l1_7.length c1_7] 25 (0, 0)) (by (with_reducible repeat (first | refine blk_drewN ?_ _ | refine blk_drew ?_ | refine blk_alloc ?_ _)); exact BK250.out) hb); have n1_ := Aside0.mk (below_step (by repeat (first | (with_reducible first | exact HB.out | apply below_alloc | apply pw_below_drewN | apply below_drew1 | refine below_set ?_ GE250.out) | exact HB.out)) hb); clear BK250; clear HB; have BK250 := n0_; have HB := n1_; clear n0_ n1_; (try clear hb); (try clear hb2); (try clear hk); (try clear hi)) | (go_at_call 8; (with_reducible refine (entrepotlaw12_shown.calls  t252 _ A9.out).mono ?_); rintro e w12 ⟨rfl, hb⟩; have n0_ := Aside0.mk (blk_below (g := gb250) (o := .cells #[.string a1_0, .int .i64 a1_1, .int .i64 a1_2, .int .i64 a1_3, .int .i64 a1_4, .int .i64 a1_5, .slice A1_6 l1_6.length c1_6, .slice A1_7 l1_7.length c1_7] 25 (0, 0)) (by (with_reducible repeat (first | refine blk_drewN ?_ _ | refine blk_drew ?_ | refine blk_alloc ?_ _)); exact BK250.out) hb); have n1_ := Aside0.mk (below_step (by repeat (first | (with_reducible first | exact HB.out | apply below_alloc | apply pw_below_drewN | apply below_drew1 | refine below_set ?_ GE250.out) | exact HB.out)) hb); clear BK250; clear HB; have BK250 := n0_; have HB := n1_; clear n0_ n1_; (try clear hb); (try clear hb2); (try clear hk); (try clear hi))); try go_wp2_with (first | (go_at_call 7; (with_reducible refine (entrepotlaw12_long.calls a1_0 a1_1 a1_2 a1_3 a1_4 a1_5 _ _ l1_6 _ _ l1_7 false _ ?side1 ?side2 ?side3 ?side4 A5.out).mono ?_); (case side1 => repeat (first | exact (Kd.C_below HR1_6.out HB.out) | (with_reducible refine Kd.C_alloc ?_ _) | (with_reducible refine Kd.C_drewN ?_ _) | (with_reducible refine Kd.C_drew ?_))); (case side2 => exact HC1_6.out); (case side3 => repeat (first | exact (Kd.C_below HR1_7.out HB.out) | (with_reducible refine Kd.C_alloc ?_ _) | (with_reducible refine Kd.C_drewN ?_ _) | (with_reducible refine Kd.C_drew ?_))); (case side4 => exact HC1_7.out); rintro e w11 ⟨rfl, hb⟩; have n0_ := Aside0.mk (blk_below (g := gb250) (o := .cells #[.string a1_0, .int .i64 a1_1, .int .i64 a1_2, .int .i64 a1_3, .int .i64 a1_4, .int .i64 a1_5, .slice A1_6 l1_6.length c1_6, .slice A1_7 l1_7.length c1_7] 25 (0, 0)) (by (with_reducible repeat (first | refine blk_drewN ?_ _ | refine blk_drew ?_ | refine blk_alloc ?_ _)); exact BK250.out) hb); have n1_ := Aside0.mk (below_step (by repeat (first | (with_reducible first | exact HB.out | apply below_alloc | apply pw_below_drewN | apply below_drew1 | refine below_set ?_ GE250.out) | exact HB.out)) hb); clear BK250; clear HB; have BK250 := n0_; have HB := n1_; clear n0_ n1_; (try clear hb); (try clear hb2); (try clear hk); (try clear hi)) | (go_at_call 8; (with_reducible refine (entrepotlaw12_shown.calls  t252 _ A9.out).mono ?_); rintro e w12 ⟨rfl, hb⟩; have n0_ := Aside0.mk (blk_below (g := gb250) (o := .cells #[.string a1_0, .int .i64 a1_1, .int .i64 a1_2, .int .i64 a1_3, .int .i64 a1_4, .int .i64 a1_5, .slice A1_6 l1_6.length c1_6, .slice A1_7 l1_7.length c1_7] 25 (0, 0)) (by (with_reducible repeat (first | refine blk_drewN ?_ _ | refine blk_drew ?_ | refine blk_alloc ?_ _)); exact BK250.out) hb); have n1_ := Aside0.mk (below_step (by repeat (first | (with_reducible first | exact HB.out | apply below_alloc | apply pw_below_drewN | apply below_drew1 | refine below_set ?_ GE250.out) | exact HB.out)) hb); clear BK250; clear HB; have BK250 := n0_; have HB := n1_; clear n0_ n1_; (try clear hb); (try clear hb2); (try clear hk); (try clear hi))))
      go_meet
      case rel => exact ⟨_, (!t252), (by first | rfl | (simp; done) | (simp [*]; done)), H', ⟨by first | omega | exact Nat.le_refl _⟩, ⟨by (with_reducible repeat (first | refine blk_drewN ?_ _ | refine blk_drew ?_ | refine blk_alloc ?_ _)); exact BK250.out⟩, ⟨by repeat (first | (with_reducible first | exact HB.out | apply below_alloc | apply pw_below_drewN | apply below_drew1 | refine below_set ?_ GE250.out) | exact HB.out)⟩⟩
  case rest =>
    clear HC3
    try clear c1
    try clear p2
    try clear c6
    try clear hcz10_0
    try clear hcz10_1
    try clear hcz10_2
    try clear hcz10_3
    try clear hcz10_4
    try clear hcz10_5
    try clear hcz10_6
    try clear hcz10_7
    try clear hcz7_0
    try clear hcz7_1
    try clear hcz7_2
    try clear hcz7_3
    try clear hcz7_4
    try clear hcz7_5
    try clear hcz7_6
    try clear hcz7_7
    try clear hfz10_0
    try clear hfz10_1
    try clear hfz10_2
    try clear hfz10_3
    try clear hfz10_4
    try clear hfz10_5
    try clear hfz10_6
    try clear hfz10_7
    try clear hfz7_0
    try clear hfz7_1
    try clear hfz7_2
    try clear hfz7_3
    try clear hfz7_4
    try clear hfz7_5
    try clear hfz7_6
    try clear hfz7_7
    obtain ⟨kq, x13_2, rfl, HA, HJ2, BK250, HB⟩ := hcut
    cases kq with
    | zero => exact absurd HA.out (by simp [entrepotlaw12_ExpressRises.j0])
    | succ kj2 =>
      have H := HA.out
      clear HA
      simp only [entrepotlaw12_ExpressRises.j0] at H
      by_cases c13 : x13_2 = true
      · subst c13
        have H1 : ((entrepotlaw12_shown.f).bind fun t253 => (some t253)) = some r := by rw [if_pos rfl] at H; exact H
        clear H
        have H := H1
        clear H1
        replace H := Option.bind_eq_some_iff.mp H
        obtain ⟨t253, A140, H⟩ := H
        replace H : (some t253) = some r := H
        have A14 := Aside0.mk A140
        clear A140
        obtain rfl := Option.some.inj H
        go_wp2_with (first | (go_at_call 8; (with_reducible refine (entrepotlaw12_shown.calls  t253 _ A14.out).mono ?_); rintro e w15 ⟨rfl, hb⟩; have n0_ := Aside0.mk (blk_below (g := gb250) (o := .cells #[.string a1_0, .int .i64 a1_1, .int .i64 a1_2, .int .i64 a1_3, .int .i64 a1_4, .int .i64 a1_5, .slice A1_6 l1_6.length c1_6, .slice A1_7 l1_7.length c1_7] 25 (0, 0)) (by (with_reducible repeat (first | refine blk_drewN ?_ _ | refine blk_drew ?_ | refine blk_alloc ?_ _)); exact BK250.out) hb); have n1_ := Aside0.mk (below_step (by repeat (first | (with_reducible first | exact HB.out | apply below_alloc | apply pw_below_drewN | apply below_drew1 | refine below_set ?_ GE250.out) | exact HB.out)) hb); clear BK250; clear HB; have BK250 := n0_; have HB := n1_; clear n0_ n1_; (try clear hb); (try clear hb2); (try clear hk); (try clear hi)))
        repeat (go_quiet (first | (go_at_call 8; (with_reducible refine (entrepotlaw12_shown.calls  t253 _ A14.out).mono ?_); rintro e w15 ⟨rfl, hb⟩; have n0_ := Aside0.mk (blk_below (g := gb250) (o := .cells #[.string a1_0, .int .i64 a1_1, .int .i64 a1_2, .int .i64 a1_3, .int .i64 a1_4, .int .i64 a1_5, .slice A1_6 l1_6.length c1_6, .slice A1_7 l1_7.length c1_7] 25 (0, 0)) (by (with_reducible repeat (first | refine blk_drewN ?_ _ | refine blk_drew ?_ | refine blk_alloc ?_ _)); exact BK250.out) hb); have n1_ := Aside0.mk (below_step (by repeat (first | (with_reducible first | exact HB.out | apply below_alloc | apply pw_below_drewN | apply below_drew1 | refine below_set ?_ GE250.out) | exact HB.out)) hb); clear BK250; clear HB; have BK250 := n0_; have HB := n1_; clear n0_ n1_; (try clear hb); (try clear hb2); (try clear hk); (try clear hi))); try go_wp2_with (first | (go_at_call 8; (with_reducible refine (entrepotlaw12_shown.calls  t253 _ A14.out).mono ?_); rintro e w15 ⟨rfl, hb⟩; have n0_ := Aside0.mk (blk_below (g := gb250) (o := .cells #[.string a1_0, .int .i64 a1_1, .int .i64 a1_2, .int .i64 a1_3, .int .i64 a1_4, .int .i64 a1_5, .slice A1_6 l1_6.length c1_6, .slice A1_7 l1_7.length c1_7] 25 (0, 0)) (by (with_reducible repeat (first | refine blk_drewN ?_ _ | refine blk_drew ?_ | refine blk_alloc ?_ _)); exact BK250.out) hb); have n1_ := Aside0.mk (below_step (by repeat (first | (with_reducible first | exact HB.out | apply below_alloc | apply pw_below_drewN | apply below_drew1 | refine below_set ?_ GE250.out) | exact HB.out)) hb); clear BK250; clear HB; have BK250 := n0_; have HB := n1_; clear n0_ n1_; (try clear hb); (try clear hb2); (try clear hk); (try clear hi))))
        go_ret
        exact ⟨by first | rfl | (simp [errW_none, errW_some] <;> rfl) | (simp [*, errW_none, errW_some] <;> rfl), by repeat (first | (with_reducible first | exact HB.out | apply below_alloc | apply pw_below_drewN | apply below_drew1 | refine below_set ?_ GE250.out) | exact HB.out)⟩
      · replace c13 := Bool.eq_false_iff.mpr c13
        subst c13
        have H1 : ((express_Lacks.f a0 a1_0 a1_1 a1_2 a1_3 a1_4 a1_5 l1_6 l1_7).bind fun t254 => (entrepotlaw12_ExpressRises.l0 kj2 a0 t254 0)) = some r := by rw [if_neg (show ¬ (false = true) by decide)] at H; exact H
        clear H
        have H := H1
        clear H1
        replace H := Option.bind_eq_some_iff.mp H
        obtain ⟨t254, A160, H⟩ := H
        replace H : (entrepotlaw12_ExpressRises.l0 kj2 a0 t254 0) = some r := H
        have A16 := Aside0.mk A160
        clear A160
        have H' := Aside0.mk H
        clear H
        have hcz17_0 : wc.cell? ⟨gb250, 0, none⟩ = some (.string a1_0) := (blk_cell BK250.out 0).trans rfl
        have hcz17_1 : wc.cell? ⟨gb250, 1, none⟩ = some (.int .i64 a1_1) := (blk_cell BK250.out 1).trans rfl
        have hcz17_2 : wc.cell? ⟨gb250, 2, none⟩ = some (.int .i64 a1_2) := (blk_cell BK250.out 2).trans rfl
        have hcz17_3 : wc.cell? ⟨gb250, 3, none⟩ = some (.int .i64 a1_3) := (blk_cell BK250.out 3).trans rfl
        have hcz17_4 : wc.cell? ⟨gb250, 4, none⟩ = some (.int .i64 a1_4) := (blk_cell BK250.out 4).trans rfl
        have hcz17_5 : wc.cell? ⟨gb250, 5, none⟩ = some (.int .i64 a1_5) := (blk_cell BK250.out 5).trans rfl
        have hcz17_6 : wc.cell? ⟨gb250, 6, none⟩ = some (.slice A1_6 l1_6.length c1_6) := (blk_cell BK250.out 6).trans rfl
        have hcz17_7 : wc.cell? ⟨gb250, 7, none⟩ = some (.slice A1_7 l1_7.length c1_7) := (blk_cell BK250.out 7).trans rfl
        have hfz17_0 := blk_frozen BK250.out 0
        have hfz17_1 := blk_frozen BK250.out 1
        have hfz17_2 := blk_frozen BK250.out 2
        have hfz17_3 := blk_frozen BK250.out 3
        have hfz17_4 := blk_frozen BK250.out 4
        have hfz17_5 := blk_frozen BK250.out 5
        have hfz17_6 := blk_frozen BK250.out 6
        have hfz17_7 := blk_frozen BK250.out 7
        go_wp2_with (first | (go_at_call 9; (with_reducible refine (express_Lacks.calls a0 a1_0 a1_1 a1_2 a1_3 a1_4 a1_5 _ _ l1_6 _ _ l1_7 t254 _ ?side1 ?side2 ?side3 ?side4 A16.out).mono ?_); (case side1 => repeat (first | exact (Kd.C_below HR1_6.out HB.out) | (with_reducible refine Kd.C_alloc ?_ _) | (with_reducible refine Kd.C_drewN ?_ _) | (with_reducible refine Kd.C_drew ?_))); (case side2 => exact HC1_6.out); (case side3 => repeat (first | exact (Kd.C_below HR1_7.out HB.out) | (with_reducible refine Kd.C_alloc ?_ _) | (with_reducible refine Kd.C_drewN ?_ _) | (with_reducible refine Kd.C_drew ?_))); (case side4 => exact HC1_7.out); rintro e w18 ⟨v255, rfl, ho0, hb⟩; have n0_ := Aside0.mk (Kd.R_lower ho0 (below_size (by repeat (first | (with_reducible first | exact HB.out | apply below_alloc | apply pw_below_drewN | apply below_drew1 | refine below_set ?_ GE250.out) | exact HB.out)))); have n1_ := Aside0.mk (blk_below (g := gb250) (o := .cells #[.string a1_0, .int .i64 a1_1, .int .i64 a1_2, .int .i64 a1_3, .int .i64 a1_4, .int .i64 a1_5, .slice A1_6 l1_6.length c1_6, .slice A1_7 l1_7.length c1_7] 25 (0, 0)) (by (with_reducible repeat (first | refine blk_drewN ?_ _ | refine blk_drew ?_ | refine blk_alloc ?_ _)); exact BK250.out) hb); have n2_ := Aside0.mk (below_step (by repeat (first | (with_reducible first | exact HB.out | apply below_alloc | apply pw_below_drewN | apply below_drew1 | refine below_set ?_ GE250.out) | exact HB.out)) hb); clear BK250; clear HB; have HO256 := n0_; have BK250 := n1_; have HB := n2_; clear n0_ n1_ n2_; (try clear hb); (try clear hb2); (try clear hk); (try clear hi); (try clear ho0)))
        repeat (go_quiet (first | (go_at_call 9; (with_reducible refine (express_Lacks.calls a0 a1_0 a1_1 a1_2 a1_3 a1_4 a1_5 _ _ l1_6 _ _ l1_7 t254 _ ?side1 ?side2 ?side3 ?side4 A16.out).mono ?_); (case side1 => repeat (first | exact (Kd.C_below HR1_6.out HB.out) | (with_reducible refine Kd.C_alloc ?_ _) | (with_reducible refine Kd.C_drewN ?_ _) | (with_reducible refine Kd.C_drew ?_))); (case side2 => exact HC1_6.out); (case side3 => repeat (first | exact (Kd.C_below HR1_7.out HB.out) | (with_reducible refine Kd.C_alloc ?_ _) | (with_reducible refine Kd.C_drewN ?_ _) | (with_reducible refine Kd.C_drew ?_))); (case side4 => exact HC1_7.out); rintro e w18 ⟨v255, rfl, ho0, hb⟩; have n0_ := Aside0.mk (Kd.R_lower ho0 (below_size (by repeat (first | (with_reducible first | exact HB.out | apply below_alloc | apply pw_below_drewN | apply below_drew1 | refine below_set ?_ GE250.out) | exact HB.out)))); have n1_ := Aside0.mk (blk_below (g := gb250) (o := .cells #[.string a1_0, .int .i64 a1_1, .int .i64 a1_2, .int .i64 a1_3, .int .i64 a1_4, .int .i64 a1_5, .slice A1_6 l1_6.length c1_6, .slice A1_7 l1_7.length c1_7] 25 (0, 0)) (by (with_reducible repeat (first | refine blk_drewN ?_ _ | refine blk_drew ?_ | refine blk_alloc ?_ _)); exact BK250.out) hb); have n2_ := Aside0.mk (below_step (by repeat (first | (with_reducible first | exact HB.out | apply below_alloc | apply pw_below_drewN | apply below_drew1 | refine below_set ?_ GE250.out) | exact HB.out)) hb); clear BK250; clear HB; have HO256 := n0_; have BK250 := n1_; have HB := n2_; clear n0_ n1_ n2_; (try clear hb); (try clear hb2); (try clear hk); (try clear hi); (try clear ho0))); try go_wp2_with (first | (go_at_call 9; (with_reducible refine (express_Lacks.calls a0 a1_0 a1_1 a1_2 a1_3 a1_4 a1_5 _ _ l1_6 _ _ l1_7 t254 _ ?side1 ?side2 ?side3 ?side4 A16.out).mono ?_); (case side1 => repeat (first | exact (Kd.C_below HR1_6.out HB.out) | (with_reducible refine Kd.C_alloc ?_ _) | (with_reducible refine Kd.C_drewN ?_ _) | (with_reducible refine Kd.C_drew ?_))); (case side2 => exact HC1_6.out); (case side3 => repeat (first | exact (Kd.C_below HR1_7.out HB.out) | (with_reducible refine Kd.C_alloc ?_ _) | (with_reducible refine Kd.C_drewN ?_ _) | (with_reducible refine Kd.C_drew ?_))); (case side4 => exact HC1_7.out); rintro e w18 ⟨v255, rfl, ho0, hb⟩; have n0_ := Aside0.mk (Kd.R_lower ho0 (below_size (by repeat (first | (with_reducible first | exact HB.out | apply below_alloc | apply pw_below_drewN | apply below_drew1 | refine below_set ?_ GE250.out) | exact HB.out)))); have n1_ := Aside0.mk (blk_below (g := gb250) (o := .cells #[.string a1_0, .int .i64 a1_1, .int .i64 a1_2, .int .i64 a1_3, .int .i64 a1_4, .int .i64 a1_5, .slice A1_6 l1_6.length c1_6, .slice A1_7 l1_7.length c1_7] 25 (0, 0)) (by (with_reducible repeat (first | refine blk_drewN ?_ _ | refine blk_drew ?_ | refine blk_alloc ?_ _)); exact BK250.out) hb); have n2_ := Aside0.mk (below_step (by repeat (first | (with_reducible first | exact HB.out | apply below_alloc | apply pw_below_drewN | apply below_drew1 | refine below_set ?_ GE250.out) | exact HB.out)) hb); clear BK250; clear HB; have HO256 := n0_; have BK250 := n1_; have HB := n2_; clear n0_ n1_ n2_; (try clear hb); (try clear hb2); (try clear hk); (try clear hi); (try clear ho0))))
        go_loopg [6] kj2 (fun kq v6 w' => ∃ (x6_2 : Int), v6 = .int .i64 x6_2 ∧ Aside0 (entrepotlaw12_ExpressRises.l0 kq a0 t254 x6_2 = some r) ∧ Aside0 (kq ≤ kj2) ∧ Aside0 (Kd.R (Kd.int .i64) 3 w' w.heap.size (fun _ => True) v255 t254) ∧ Aside0 (w'.heap[gb250]? = some (.cells #[.string a1_0, .int .i64 a1_1, .int .i64 a1_2, .int .i64 a1_3, .int .i64 a1_4, .int .i64 a1_5, (.slice A1_6 l1_6.length c1_6), (.slice A1_7 l1_7.length c1_7)] 25 (0, 0))) ∧ Aside0 (Below w.heap.size w w'))
        case atStart => exact ⟨(0), (by first | rfl | (simp; done) | (simp [*]; done)), H', ⟨Nat.le_refl _⟩, ⟨by (with_reducible repeat (first | apply Kd.R_alloc | apply Kd.R_drewN | apply Kd.R_drew)); exact HO256.out⟩, ⟨by (with_reducible repeat (first | refine blk_drewN ?_ _ | refine blk_drew ?_ | refine blk_alloc ?_ _)); exact BK250.out⟩, ⟨by repeat (first | (with_reducible first | exact HB.out | apply below_alloc | apply pw_below_drewN | apply below_drew1 | refine below_set ?_ GE250.out) | exact HB.out)⟩⟩
        case round =>
          clear H'
          try clear c1
          try clear p2
          try clear c6
          try clear c13
          try clear hcz10_0
          try clear hcz10_1
          try clear hcz10_2
          try clear hcz10_3
          try clear hcz10_4
          try clear hcz10_5
          try clear hcz10_6
          try clear hcz10_7
          try clear hcz17_0
          try clear hcz17_1
          try clear hcz17_2
          try clear hcz17_3
          try clear hcz17_4
          try clear hcz17_5
          try clear hcz17_6
          try clear hcz17_7
          try clear hcz7_0
          try clear hcz7_1
          try clear hcz7_2
          try clear hcz7_3
          try clear hcz7_4
          try clear hcz7_5
          try clear hcz7_6
          try clear hcz7_7
          try clear hfz10_0
          try clear hfz10_1
          try clear hfz10_2
          try clear hfz10_3
          try clear hfz10_4
          try clear hfz10_5
          try clear hfz10_6
          try clear hfz10_7
          try clear hfz17_0
          try clear hfz17_1
          try clear hfz17_2
          try clear hfz17_3
          try clear hfz17_4
          try clear hfz17_5
          try clear hfz17_6
          try clear hfz17_7
          try clear hfz7_0
          try clear hfz7_1
          try clear hfz7_2
          try clear hfz7_3
          try clear hfz7_4
          try clear hfz7_5
          try clear hfz7_6
          try clear hfz7_7
          try clear p2
          obtain ⟨x6_2, rfl, HA, HK2, HO_5, BK250, HB⟩ := hrel
          cases gk with
          | zero => exact absurd HA.out (by simp [entrepotlaw12_ExpressRises.l0])
          | succ k2 =>
            have H := HA.out
            clear HA
            simp only [entrepotlaw12_ExpressRises.l0] at H
            by_cases c19 : x6_2 < (t254.length : Int)
            · rw [if_pos c19] at H
              have c19b0 : decide (x6_2 < (t254.length : Int)) = true := decide_eq_true c19
              clear c19
              by_cases c20 : 0 ≤ x6_2
              · rw [if_pos c20] at H
                have c20b0 : decide (0 ≤ x6_2) = true := decide_eq_true c20
                clear c20
                by_cases c21 : (rd t254 x6_2) < 1
                · rw [if_pos c21] at H
                  have c21b0 : decide ((rd t254 x6_2) < 1) = true := decide_eq_true c21
                  clear c21
                  obtain rfl := Option.some.inj H
                  obtain ⟨Ao22, co22, eo22⟩ := Kd.R_slice HO_5.out
                  subst eo22
                  have p257 : 0 ≤ (x6_2 : Int) := of_decide_eq_true (by first | (with_reducible assumption) | assumption)
                  have q257 : x6_2 < (t254.length : Int) := of_decide_eq_true (by first | (with_reducible assumption) | assumption)
                  obtain ⟨ad257, e257, hx257_0⟩ := Kd.at_int (Kd.R_reads' HO_5.out).2.2 x6_2 p257 q257
                  cases e257
                  replace p257 := eq_true p257
                  replace q257 := eq_true q257
                  go_wp2
                  repeat (go_quiet (fail); try go_wp2)
                  go_ret
                  exact ⟨by first | rfl | (simp [errW_none, errW_some] <;> rfl) | (simp [*, errW_none, errW_some] <;> rfl), by repeat (first | (with_reducible first | exact HB.out | apply below_alloc | apply pw_below_drewN | apply below_drew1 | refine below_set ?_ GE250.out) | exact HB.out)⟩
                · rw [if_neg c21] at H
                  have c21b0 : decide ((rd t254 x6_2) < 1) = false := decide_eq_false c21
                  clear c21
                  by_cases c23 : (rd t254 x6_2) > 13
                  · rw [if_pos c23] at H
                    have c23b0 : decide (13 < (rd t254 x6_2)) = true := decide_eq_true c23
                    clear c23
                    obtain rfl := Option.some.inj H
                    obtain ⟨Ao24, co24, eo24⟩ := Kd.R_slice HO_5.out
                    subst eo24
                    have p257 : 0 ≤ (x6_2 : Int) := of_decide_eq_true (by first | (with_reducible assumption) | assumption)
                    have q257 : x6_2 < (t254.length : Int) := of_decide_eq_true (by first | (with_reducible assumption) | assumption)
                    obtain ⟨ad257, e257, hx257_0⟩ := Kd.at_int (Kd.R_reads' HO_5.out).2.2 x6_2 p257 q257
                    cases e257
                    replace p257 := eq_true p257
                    replace q257 := eq_true q257
                    have p258 : 0 ≤ (x6_2 : Int) := of_decide_eq_true (by first | (with_reducible assumption) | assumption)
                    have q258 : x6_2 < (t254.length : Int) := of_decide_eq_true (by first | (with_reducible assumption) | assumption)
                    obtain ⟨ad258, e258, hx258_0⟩ := Kd.at_int (Kd.R_reads' HO_5.out).2.2 x6_2 p258 q258
                    obtain rfl : ad257 = ad258 := (by injection e258)
                    replace p258 := eq_true p258
                    replace q258 := eq_true q258
                    go_wp2
                    repeat (go_quiet (fail); try go_wp2)
                    go_ret
                    exact ⟨by first | rfl | (simp [errW_none, errW_some] <;> rfl) | (simp [*, errW_none, errW_some] <;> rfl), by repeat (first | (with_reducible first | exact HB.out | apply below_alloc | apply pw_below_drewN | apply below_drew1 | refine below_set ?_ GE250.out) | exact HB.out)⟩
                  · rw [if_neg c23] at H
                    have c23b0 : decide (13 < (rd t254 x6_2)) = false := decide_eq_false c23
                    clear c23
                    by_cases c25 : x6_2 > 0
                    · rw [if_pos c25] at H
                      have c25b0 : decide (0 < x6_2) = true := decide_eq_true c25
                      clear c25
                      obtain ⟨ji26, hji26⟩ : ∃ j_ : Int, (wrap64 (x6_2 - 1)) = j_ := ⟨_, rfl⟩
                      replace H : (if 0 ≤ (ji26) then (if (ji26) < (t254.length : Int) then (if (rd t254 x6_2) ≤ (rd t254 (ji26)) then (some false) else (entrepotlaw12_ExpressRises.l0 k2 a0 t254 (wrap64 (x6_2 + 1)))) else (none)) else (none)) = some r := by first | (rw [hji26] at H; exact H) | (simp only [hji26] at H ⊢; exact H)
                      have hji26w : (IntKind.i64.wrap (x6_2 - 1)) = ji26 := (i64_w _).trans hji26
                      by_cases c27 : 0 ≤ (ji26)
                      · rw [if_pos c27] at H
                        have c27b0 : decide (0 ≤ (ji26)) = true := decide_eq_true c27
                        clear c27
                        by_cases c28 : (ji26) < (t254.length : Int)
                        · rw [if_pos c28] at H
                          have c28b0 : decide ((ji26) < (t254.length : Int)) = true := decide_eq_true c28
                          clear c28
                          by_cases c29 : (rd t254 x6_2) ≤ (rd t254 (ji26))
                          · rw [if_pos c29] at H
                            have c29b0 : decide ((rd t254 x6_2) ≤ (rd t254 (ji26))) = true := decide_eq_true c29
                            clear c29
                            obtain rfl := Option.some.inj H
                            obtain ⟨Ao30, co30, eo30⟩ := Kd.R_slice HO_5.out
                            subst eo30
                            have p257 : 0 ≤ (x6_2 : Int) := of_decide_eq_true (by first | (with_reducible assumption) | assumption)
                            have q257 : x6_2 < (t254.length : Int) := of_decide_eq_true (by first | (with_reducible assumption) | assumption)
                            obtain ⟨ad257, e257, hx257_0⟩ := Kd.at_int (Kd.R_reads' HO_5.out).2.2 x6_2 p257 q257
                            cases e257
                            replace p257 := eq_true p257
                            replace q257 := eq_true q257
                            have p258 : 0 ≤ (x6_2 : Int) := of_decide_eq_true (by first | (with_reducible assumption) | assumption)
                            have q258 : x6_2 < (t254.length : Int) := of_decide_eq_true (by first | (with_reducible assumption) | assumption)
                            obtain ⟨ad258, e258, hx258_0⟩ := Kd.at_int (Kd.R_reads' HO_5.out).2.2 x6_2 p258 q258
                            obtain rfl : ad257 = ad258 := (by injection e258)
                            replace p258 := eq_true p258
                            replace q258 := eq_true q258
                            have p259 : 0 ≤ (x6_2 : Int) := of_decide_eq_true (by first | (with_reducible assumption) | assumption)
                            have q259 : x6_2 < (t254.length : Int) := of_decide_eq_true (by first | (with_reducible assumption) | assumption)
                            obtain ⟨ad259, e259, hx259_0⟩ := Kd.at_int (Kd.R_reads' HO_5.out).2.2 x6_2 p259 q259
                            obtain rfl : ad257 = ad259 := (by injection e259)
                            replace p259 := eq_true p259
                            replace q259 := eq_true q259
                            have p260 : 0 ≤ ((ji26) : Int) := of_decide_eq_true (by first | (with_reducible assumption) | assumption)
                            have q260 : (ji26) < (t254.length : Int) := of_decide_eq_true (by first | (with_reducible assumption) | assumption)
                            obtain ⟨ad260, e260, hx260_0⟩ := Kd.at_int (Kd.R_reads' HO_5.out).2.2 (ji26) p260 q260
                            obtain rfl : ad257 = ad260 := (by injection e260)
                            replace p260 := eq_true p260
                            replace q260 := eq_true q260
                            go_wp2
                            repeat (go_quiet (fail); try go_wp2)
                            go_ret
                            exact ⟨by first | rfl | (simp [errW_none, errW_some] <;> rfl) | (simp only [← hji26]; first | rfl | (simp [errW_none, errW_some] <;> rfl)) | (simp [*, errW_none, errW_some] <;> rfl), by repeat (first | (with_reducible first | exact HB.out | apply below_alloc | apply pw_below_drewN | apply below_drew1 | refine below_set ?_ GE250.out) | exact HB.out)⟩
                          · rw [if_neg c29] at H
                            have c29b0 : decide ((rd t254 x6_2) ≤ (rd t254 (ji26))) = false := decide_eq_false c29
                            clear c29
                            have H' := Aside0.mk H
                            clear H
                            obtain ⟨Ao31, co31, eo31⟩ := Kd.R_slice HO_5.out
                            subst eo31
                            have p257 : 0 ≤ (x6_2 : Int) := of_decide_eq_true (by first | (with_reducible assumption) | assumption)
                            have q257 : x6_2 < (t254.length : Int) := of_decide_eq_true (by first | (with_reducible assumption) | assumption)
                            obtain ⟨ad257, e257, hx257_0⟩ := Kd.at_int (Kd.R_reads' HO_5.out).2.2 x6_2 p257 q257
                            cases e257
                            replace p257 := eq_true p257
                            replace q257 := eq_true q257
                            have p258 : 0 ≤ (x6_2 : Int) := of_decide_eq_true (by first | (with_reducible assumption) | assumption)
                            have q258 : x6_2 < (t254.length : Int) := of_decide_eq_true (by first | (with_reducible assumption) | assumption)
                            obtain ⟨ad258, e258, hx258_0⟩ := Kd.at_int (Kd.R_reads' HO_5.out).2.2 x6_2 p258 q258
                            obtain rfl : ad257 = ad258 := (by injection e258)
                            replace p258 := eq_true p258
                            replace q258 := eq_true q258
                            have p259 : 0 ≤ (x6_2 : Int) := of_decide_eq_true (by first | (with_reducible assumption) | assumption)
                            have q259 : x6_2 < (t254.length : Int) := of_decide_eq_true (by first | (with_reducible assumption) | assumption)
                            obtain ⟨ad259, e259, hx259_0⟩ := Kd.at_int (Kd.R_reads' HO_5.out).2.2 x6_2 p259 q259
                            obtain rfl : ad257 = ad259 := (by injection e259)
                            replace p259 := eq_true p259
                            replace q259 := eq_true q259
                            have p260 : 0 ≤ ((ji26) : Int) := of_decide_eq_true (by first | (with_reducible assumption) | assumption)
                            have q260 : (ji26) < (t254.length : Int) := of_decide_eq_true (by first | (with_reducible assumption) | assumption)
                            obtain ⟨ad260, e260, hx260_0⟩ := Kd.at_int (Kd.R_reads' HO_5.out).2.2 (ji26) p260 q260
                            obtain rfl : ad257 = ad260 := (by injection e260)
                            replace p260 := eq_true p260
                            replace q260 := eq_true q260
                            go_wp2
                            repeat (go_quiet (fail); try go_wp2)
                            go_roundg k2
                            case measure => have := HJ2.out; have := HK2.out; omega
                            case rel => exact ⟨(wrap64 (x6_2 + 1)), (by first | rfl | (simp; done) | (simp [*]; done)), H', ⟨by have := HJ2.out; have := HK2.out; omega⟩, ⟨by (with_reducible repeat (first | apply Kd.R_alloc | apply Kd.R_drewN | apply Kd.R_drew)); exact HO_5.out⟩, ⟨by (with_reducible repeat (first | refine blk_drewN ?_ _ | refine blk_drew ?_ | refine blk_alloc ?_ _)); exact BK250.out⟩, ⟨by repeat (first | (with_reducible first | exact HB.out | apply below_alloc | apply pw_below_drewN | apply below_drew1 | refine below_set ?_ GE250.out) | exact HB.out)⟩⟩
                        · rw [if_neg c28] at H
                          exact absurd H (by simp)
                      · rw [if_neg c27] at H
                        exact absurd H (by simp)
                    · rw [if_neg c25] at H
                      have c25b0 : decide (0 < x6_2) = false := decide_eq_false c25
                      clear c25
                      have H' := Aside0.mk H
                      clear H
                      obtain ⟨Ao32, co32, eo32⟩ := Kd.R_slice HO_5.out
                      subst eo32
                      have p257 : 0 ≤ (x6_2 : Int) := of_decide_eq_true (by first | (with_reducible assumption) | assumption)
                      have q257 : x6_2 < (t254.length : Int) := of_decide_eq_true (by first | (with_reducible assumption) | assumption)
                      obtain ⟨ad257, e257, hx257_0⟩ := Kd.at_int (Kd.R_reads' HO_5.out).2.2 x6_2 p257 q257
                      cases e257
                      replace p257 := eq_true p257
                      replace q257 := eq_true q257
                      have p258 : 0 ≤ (x6_2 : Int) := of_decide_eq_true (by first | (with_reducible assumption) | assumption)
                      have q258 : x6_2 < (t254.length : Int) := of_decide_eq_true (by first | (with_reducible assumption) | assumption)
                      obtain ⟨ad258, e258, hx258_0⟩ := Kd.at_int (Kd.R_reads' HO_5.out).2.2 x6_2 p258 q258
                      obtain rfl : ad257 = ad258 := (by injection e258)
                      replace p258 := eq_true p258
                      replace q258 := eq_true q258
                      go_wp2
                      repeat (go_quiet (fail); try go_wp2)
                      go_roundg k2
                      case measure => have := HJ2.out; have := HK2.out; omega
                      case rel => exact ⟨(wrap64 (x6_2 + 1)), (by first | rfl | (simp; done) | (simp [*]; done)), H', ⟨by have := HJ2.out; have := HK2.out; omega⟩, ⟨by (with_reducible repeat (first | apply Kd.R_alloc | apply Kd.R_drewN | apply Kd.R_drew)); exact HO_5.out⟩, ⟨by (with_reducible repeat (first | refine blk_drewN ?_ _ | refine blk_drew ?_ | refine blk_alloc ?_ _)); exact BK250.out⟩, ⟨by repeat (first | (with_reducible first | exact HB.out | apply below_alloc | apply pw_below_drewN | apply below_drew1 | refine below_set ?_ GE250.out) | exact HB.out)⟩⟩
              · rw [if_neg c20] at H
                exact absurd H (by simp)
            · rw [if_neg c19] at H
              have c19b0 : decide (x6_2 < (t254.length : Int)) = false := decide_eq_false c19
              clear c19
              by_cases c33 : a0 ≥ 1
              · rw [if_pos c33] at H
                have c33b0 : decide (1 ≤ a0) = true := decide_eq_true c33
                clear c33
                by_cases c34 : (((t254.length : Int) == 13) == (!(decide (a0 ≤ 5)))) = true
                · rw [if_pos c34] at H
                  have c34b0 : (((t254.length : Int) == 13) == (!(decide (a0 ≤ 5)))) = true := c34
                  (try (have c34b1 : decide (((t254.length : Int) == 13) = (!(decide (a0 ≤ 5)))) = true := by simpa using c34))
                  (try (have c34b2 : (((t254.length : Int) == 13) == (!(decide (a0 ≤ 5)))) = true := by simpa using c34))
                  clear c34
                  by_cases c35 : a0 = 4
                  · rw [if_pos c35] at H
                    have c35b0 : (a0 == 4) = true := beq_iff_eq.mpr c35
                    have c35b1 : (a0 != 4) = false := bne_eq_false_iff_eq.mpr c35
                    clear c35
                    obtain rfl := Option.some.inj H
                    obtain ⟨Ao36, co36, eo36⟩ := Kd.R_slice HO_5.out
                    subst eo36
                    go_wp2
                    repeat (go_quiet (fail); try go_wp2)
                    go_ret
                    exact ⟨by first | rfl | (simp [errW_none, errW_some] <;> rfl) | (simp [*, errW_none, errW_some] <;> rfl), by repeat (first | (with_reducible first | exact HB.out | apply below_alloc | apply pw_below_drewN | apply below_drew1 | refine below_set ?_ GE250.out) | exact HB.out)⟩
                  · rw [if_neg c35] at H
                    have c35b0 : (a0 == 4) = false := beq_eq_false_iff_ne.mpr c35
                    have c35b1 : (a0 != 4) = true := bne_iff_ne.mpr c35
                    by_cases c37 : a0 = 5
                    · rw [if_pos c37] at H
                      have c37b0 : (a0 == 5) = true := beq_iff_eq.mpr c37
                      have c37b1 : (a0 != 5) = false := bne_eq_false_iff_eq.mpr c37
                      clear c37
                      obtain rfl := Option.some.inj H
                      obtain ⟨Ao38, co38, eo38⟩ := Kd.R_slice HO_5.out
                      subst eo38
                      go_wp2
                      repeat (go_quiet (fail); try go_wp2)
                      go_ret
                      exact ⟨by first | rfl | (simp [errW_none, errW_some] <;> rfl) | (simp [*, errW_none, errW_some] <;> rfl), by repeat (first | (with_reducible first | exact HB.out | apply below_alloc | apply pw_below_drewN | apply below_drew1 | refine below_set ?_ GE250.out) | exact HB.out)⟩
                    · rw [if_neg c37] at H
                      have c37b0 : (a0 == 5) = false := beq_eq_false_iff_ne.mpr c37
                      have c37b1 : (a0 != 5) = true := bne_iff_ne.mpr c37
                      obtain rfl := Option.some.inj H
                      obtain ⟨Ao39, co39, eo39⟩ := Kd.R_slice HO_5.out
                      subst eo39
                      go_wp2
                      repeat (go_quiet (fail); try go_wp2)
                      go_ret
                      exact ⟨by first | rfl | (simp [errW_none, errW_some] <;> rfl) | (simp [*, errW_none, errW_some] <;> rfl), by repeat (first | (with_reducible first | exact HB.out | apply below_alloc | apply pw_below_drewN | apply below_drew1 | refine below_set ?_ GE250.out) | exact HB.out)⟩
                · rw [if_neg c34] at H
                  have c34b0 : (((t254.length : Int) == 13) == (!(decide (a0 ≤ 5)))) = false := by simpa using c34
                  (try (have c34b1 : decide (((t254.length : Int) == 13) = (!(decide (a0 ≤ 5)))) = false := by simpa using c34))
                  (try (have c34b2 : (((t254.length : Int) == 13) == (!(decide (a0 ≤ 5)))) = false := by simpa using c34))
                  (try (have c34b3 : ¬ (((t254.length : Int) == 13) = (!(decide (a0 ≤ 5)))) := by simpa using c34))
                  clear c34
                  obtain rfl := Option.some.inj H
                  obtain ⟨Ao40, co40, eo40⟩ := Kd.R_slice HO_5.out
                  subst eo40
                  go_wp2
                  repeat (go_quiet (fail); try go_wp2)
                  go_ret
                  exact ⟨by first | rfl | (simp [errW_none, errW_some] <;> rfl) | (simp [*, errW_none, errW_some] <;> rfl), by repeat (first | (with_reducible first | exact HB.out | apply below_alloc | apply pw_below_drewN | apply below_drew1 | refine below_set ?_ GE250.out) | exact HB.out)⟩
              · rw [if_neg c33] at H
                have c33b0 : decide (1 ≤ a0) = false := decide_eq_false c33
                clear c33
                by_cases c41 : (((t254.length : Int) == 13) == (!false)) = true
                · rw [if_pos c41] at H
                  have c41b0 : (((t254.length : Int) == 13) == (!false)) = true := c41
                  (try (have c41n : ((t254.length : Int) == 13) = true := by simpa using c41))
                  (try (have c41b1 : decide (((t254.length : Int) == 13) = (!false)) = true := by simpa using c41))
                  (try (have c41b2 : (((t254.length : Int) == 13) == (!false)) = true := by simpa using c41))
                  clear c41
                  by_cases c42 : a0 = 4
                  · rw [if_pos c42] at H
                    have c42b0 : (a0 == 4) = true := beq_iff_eq.mpr c42
                    have c42b1 : (a0 != 4) = false := bne_eq_false_iff_eq.mpr c42
                    clear c42
                    obtain rfl := Option.some.inj H
                    obtain ⟨Ao43, co43, eo43⟩ := Kd.R_slice HO_5.out
                    subst eo43
                    go_wp2
                    repeat (go_quiet (fail); try go_wp2)
                    go_ret
                    exact ⟨by first | rfl | (simp [errW_none, errW_some] <;> rfl) | (simp [*, errW_none, errW_some] <;> rfl), by repeat (first | (with_reducible first | exact HB.out | apply below_alloc | apply pw_below_drewN | apply below_drew1 | refine below_set ?_ GE250.out) | exact HB.out)⟩
                  · rw [if_neg c42] at H
                    have c42b0 : (a0 == 4) = false := beq_eq_false_iff_ne.mpr c42
                    have c42b1 : (a0 != 4) = true := bne_iff_ne.mpr c42
                    by_cases c44 : a0 = 5
                    · rw [if_pos c44] at H
                      have c44b0 : (a0 == 5) = true := beq_iff_eq.mpr c44
                      have c44b1 : (a0 != 5) = false := bne_eq_false_iff_eq.mpr c44
                      clear c44
                      obtain rfl := Option.some.inj H
                      obtain ⟨Ao45, co45, eo45⟩ := Kd.R_slice HO_5.out
                      subst eo45
                      go_wp2
                      repeat (go_quiet (fail); try go_wp2)
                      go_ret
                      exact ⟨by first | rfl | (simp [errW_none, errW_some] <;> rfl) | (simp [*, errW_none, errW_some] <;> rfl), by repeat (first | (with_reducible first | exact HB.out | apply below_alloc | apply pw_below_drewN | apply below_drew1 | refine below_set ?_ GE250.out) | exact HB.out)⟩
                    · rw [if_neg c44] at H
                      have c44b0 : (a0 == 5) = false := beq_eq_false_iff_ne.mpr c44
                      have c44b1 : (a0 != 5) = true := bne_iff_ne.mpr c44
                      obtain rfl := Option.some.inj H
                      obtain ⟨Ao46, co46, eo46⟩ := Kd.R_slice HO_5.out
                      subst eo46
                      go_wp2
                      repeat (go_quiet (fail); try go_wp2)
                      go_ret
                      exact ⟨by first | rfl | (simp [errW_none, errW_some] <;> rfl) | (simp [*, errW_none, errW_some] <;> rfl), by repeat (first | (with_reducible first | exact HB.out | apply below_alloc | apply pw_below_drewN | apply below_drew1 | refine below_set ?_ GE250.out) | exact HB.out)⟩
                · rw [if_neg c41] at H
                  have c41b0 : (((t254.length : Int) == 13) == (!false)) = false := by simpa using c41
                  (try (have c41n : ((t254.length : Int) == 13) = false := by simpa using c41))
                  (try (have c41b1 : decide (((t254.length : Int) == 13) = (!false)) = false := by simpa using c41))
                  (try (have c41b2 : (((t254.length : Int) == 13) == (!false)) = false := by simpa using c41))
                  (try (have c41b3 : ¬ (((t254.length : Int) == 13) = (!false)) := by simpa using c41))
                  clear c41
                  obtain rfl := Option.some.inj H
                  obtain ⟨Ao47, co47, eo47⟩ := Kd.R_slice HO_5.out
                  subst eo47
                  go_wp2
                  repeat (go_quiet (fail); try go_wp2)
                  go_ret
                  exact ⟨by first | rfl | (simp [errW_none, errW_some] <;> rfl) | (simp [*, errW_none, errW_some] <;> rfl), by repeat (first | (with_reducible first | exact HB.out | apply below_alloc | apply pw_below_drewN | apply below_drew1 | refine below_set ?_ GE250.out) | exact HB.out)⟩

end Go.Proofs.Ytmapllahhpdedaa.P
