/- Written by a program of this session, after the kit's print: Lean functions for Go functions, and the proof that the machine comes to their answers. -/
import Derived.Test.YtmapllahhpdedaaPx0
import Derived.Test.YtmapllahhpdedaaPxEntrepotref12some
namespace Go.Proofs.Ytmapllahhpdedaa.P
open Go.RowKit Go.Proofs.YtmapllahhpdedaaW.PrintWords Go.Proofs.YtmapllahhpdedaaW.PrintLast Go.Proofs.YtmapllahhpdedaaW.PrintMore
attribute [local go_sem] max2_int min2_int max_two min_two max_three min_three max_four min_four   -- for this text's walks alone
set_option linter.unusedVariables false
set_option linter.unusedSimpArgs false

/-! ### entrepotref12_lacks: function 24 -/
mutual
def entrepotref12_lacks.j0 : Nat → Int → Int → Bool → ByteArray → Int → Int → Int → Int → Int → List (S49) → List Int → Option (Bool)
 | 0, _, _, _, _, _, _, _, _, _, _, _ => none
 | k + 1, x0, x1, x7, x132000, x132001, x132002, x132003, x132004, x132005, x132006, x132007 => if x7 = true then (some true) else (if x0 > 3 then (some false) else (if x1 = 1 then (if x0 = 3 then (some (x132000.toList != ([108, 105, 108, 105, 109] : List UInt8))) else (some false)) else (if x1 = 2 then (if x0 = 1 then (if x132001 = 1 then (if x0 = 2 then (if x132001 = 3 then (if x0 = 3 then (some (x132001 != 4)) else (some false)) else (some true)) else (if x0 = 3 then (some (x132001 != 4)) else (some false))) else (if x132001 = 2 then (if x0 = 2 then (if x132001 = 3 then (if x0 = 3 then (some (x132001 != 4)) else (some false)) else (some true)) else (if x0 = 3 then (some (x132001 != 4)) else (some false))) else (some true))) else (if x0 = 2 then (if x132001 = 3 then (if x0 = 3 then (some (x132001 != 4)) else (some false)) else (some true)) else (if x0 = 3 then (some (x132001 != 4)) else (some false)))) else (if x1 = 3 then (if x0 = 1 then (if x132002 < 0 then (some true) else (if x132002 > 5 then (some true) else (if x0 > 1 then (some (x132002 != 6)) else (some false)))) else (if x0 > 1 then (some (x132002 != 6)) else (some false))) else (if x1 = 4 then (if x0 = 3 then (some (x132003 != 0)) else (some false)) else (if x1 = 6 then (if x0 = 1 then (if x132005 = 0 then (if x0 > 1 then (some (decide (x132005 < 1))) else (some false)) else (some true)) else (if x0 > 1 then (some (decide (x132005 < 1))) else (some false))) else (if x1 = 10 then (entrepotref12_lacks.j1 k x0 x1 true x132000 x132001 x132002 x132003 x132004 x132005 x132006 x132007) else (entrepotref12_lacks.j1 k x0 x1 (x1 == 13) x132000 x132001 x132002 x132003 x132004 x132005 x132006 x132007))))))))
def entrepotref12_lacks.j1 : Nat → Int → Int → Bool → ByteArray → Int → Int → Int → Int → Int → List (S49) → List Int → Option (Bool)
 | 0, _, _, _, _, _, _, _, _, _, _, _ => none
 | k + 1, x0, x1, x113, x132000, x132001, x132002, x132003, x132004, x132005, x132006, x132007 => if x113 = true then (if x0 < 3 then ((entrepotref12_some.f k x132000 x132001 x132002 x132003 x132004 x132005 x132006 x132007 x1).bind fun t132 => (some t132)) else (some false)) else (if x1 = 11 then (if x0 = 1 then ((entrepotref12_some.f k x132000 x132001 x132002 x132003 x132004 x132005 x132006 x132007 x1).bind fun t133 => (some t133)) else (some false)) else (if x1 = 12 then (if x0 = 1 then ((entrepotref12_some.f k x132000 x132001 x132002 x132003 x132004 x132005 x132006 x132007 x1).bind fun t134 => (some t134)) else (some false)) else (some false)))
end
def entrepotref12_lacks.f (k : Nat) (a0 : Int) (a1 : Int) (a2_0 : ByteArray) (a2_1 : Int) (a2_2 : Int) (a2_3 : Int) (a2_4 : Int) (a2_5 : Int) (l2_6 : List (S49)) (l2_7 : List Int) : Option (Bool) := if a0 < 1 then (entrepotref12_lacks.j0 k a0 a1 true a2_0 a2_1 a2_2 a2_3 a2_4 a2_5 l2_6 l2_7) else (entrepotref12_lacks.j0 k a0 a1 (decide (a0 > 5)) a2_0 a2_1 a2_2 a2_3 a2_4 a2_5 l2_6 l2_7)
theorem entrepotref12_lacks.mono_l : ∀ k, (∀ y0 y1 y2 y3 y4 y5 y6 y7 y8 y9 y10, LeO (entrepotref12_lacks.j0 k y0 y1 y2 y3 y4 y5 y6 y7 y8 y9 y10) (entrepotref12_lacks.j0 (k + 1) y0 y1 y2 y3 y4 y5 y6 y7 y8 y9 y10)) ∧ (∀ y0 y1 y2 y3 y4 y5 y6 y7 y8 y9 y10, LeO (entrepotref12_lacks.j1 k y0 y1 y2 y3 y4 y5 y6 y7 y8 y9 y10) (entrepotref12_lacks.j1 (k + 1) y0 y1 y2 y3 y4 y5 y6 y7 y8 y9 y10))
 | 0 => ⟨fun _ _ _ _ _ _ _ _ _ _ _ r h => by simp [entrepotref12_lacks.j0] at h, fun _ _ _ _ _ _ _ _ _ _ _ r h => by simp [entrepotref12_lacks.j1] at h⟩
 | k + 1 => by
  obtain ⟨ih0, ih1⟩ := entrepotref12_lacks.mono_l k
  refine ⟨?_, ?_⟩
  ·intro y0 y1 y2 y3 y4 y5 y6 y7 y8 y9 y10
   unfold entrepotref12_lacks.j0
   repeat' first
   | (with_reducible exact ih0 _ _ _ _ _ _ _ _ _ _ _)
   | (with_reducible exact ih1 _ _ _ _ _ _ _ _ _ _ _)
   | (with_reducible exact entrepotref12_some.mono _ _ _ _ _ _ _ _ _ _)
   | (with_reducible exact LeO.refl _)
   | (with_reducible exact LeO.none _)
   | (with_reducible refine LeO.ite ?_ ?_)
   | (with_reducible refine LeO.bind ?_ (fun _ => ?_))
   | exact ih0 _ _ _ _ _ _ _ _ _ _ _
   | exact ih1 _ _ _ _ _ _ _ _ _ _ _
   | exact entrepotref12_some.mono _ _ _ _ _ _ _ _ _ _
   | exact LeO.none _
   | refine LeO.ite ?_ ?_
   | refine LeO.bind ?_ (fun _ => ?_)
  ·intro y0 y1 y2 y3 y4 y5 y6 y7 y8 y9 y10
   unfold entrepotref12_lacks.j1
   repeat' first
   | (with_reducible exact ih0 _ _ _ _ _ _ _ _ _ _ _)
   | (with_reducible exact ih1 _ _ _ _ _ _ _ _ _ _ _)
   | (with_reducible exact entrepotref12_some.mono _ _ _ _ _ _ _ _ _ _)
   | (with_reducible exact LeO.refl _)
   | (with_reducible exact LeO.none _)
   | (with_reducible refine LeO.ite ?_ ?_)
   | (with_reducible refine LeO.bind ?_ (fun _ => ?_))
   | exact ih0 _ _ _ _ _ _ _ _ _ _ _
   | exact ih1 _ _ _ _ _ _ _ _ _ _ _
   | exact entrepotref12_some.mono _ _ _ _ _ _ _ _ _ _
   | exact LeO.none _
   | refine LeO.ite ?_ ?_
   | refine LeO.bind ?_ (fun _ => ?_)
theorem entrepotref12_lacks.mono : ∀ a0 a1 a2 a3 a4 a5 a6 a7 a8 a9 k, LeO (entrepotref12_lacks.f k a0 a1 a2 a3 a4 a5 a6 a7 a8 a9) (entrepotref12_lacks.f (k + 1) a0 a1 a2 a3 a4 a5 a6 a7 a8 a9) := by
 intro a0 a1 a2 a3 a4 a5 a6 a7 a8 a9 k
 obtain ⟨ih0, ih1⟩ := entrepotref12_lacks.mono_l k
 unfold entrepotref12_lacks.f
 repeat' first
   | (with_reducible exact ih0 _ _ _ _ _ _ _ _ _ _ _)
   | (with_reducible exact ih1 _ _ _ _ _ _ _ _ _ _ _)
   | (with_reducible exact entrepotref12_some.mono _ _ _ _ _ _ _ _ _ _)
   | (with_reducible exact LeO.refl _)
   | (with_reducible exact LeO.none _)
   | (with_reducible refine LeO.ite ?_ ?_)
   | (with_reducible refine LeO.bind ?_ (fun _ => ?_))
   | exact ih0 _ _ _ _ _ _ _ _ _ _ _
   | exact ih1 _ _ _ _ _ _ _ _ _ _ _
   | exact entrepotref12_some.mono _ _ _ _ _ _ _ _ _ _
   | exact LeO.none _
   | refine LeO.ite ?_ ?_
   | refine LeO.bind ?_ (fun _ => ?_)
set_option maxHeartbeats 8000000 in
set_option maxRecDepth 100000 in
theorem entrepotref12_lacks.calls (k : Nat) (a0 : Int) (a1 : Int) (a2_0 : ByteArray) (a2_1 : Int) (a2_2 : Int) (a2_3 : Int) (a2_4 : Int) (a2_5 : Int) (A2_6 : Option Addr) (c2_6 : Nat) (l2_6 : List (S49)) (A2_7 : Option Addr) (c2_7 : Nat) (l2_7 : List Int) (r : Bool) (w : World) (hr2_6 : Kd.C k49 w A2_6 l2_6.length l2_6) (hc2_6 : l2_6.length ≤ c2_6) (hr2_7 : Kd.C (Kd.int .i64) w A2_7 l2_7.length l2_7) (hc2_7 : l2_7.length ≤ c2_7) (h : entrepotref12_lacks.f k a0 a1 a2_0 a2_1 a2_2 a2_3 a2_4 a2_5 l2_6 l2_7 = some r) :
  Calls Try.prog 24 #[.int .i64 a0, .int .i64 a1, .agg #[.string a2_0, .int .i64 a2_1, .int .i64 a2_2, .int .i64 a2_3, .int .i64 a2_4, .int .i64 a2_5, .slice A2_6 l2_6.length c2_6, .slice A2_7 l2_7.length c2_7]] w fun e w' => e = .returned (.bool r) ∧ Below w.heap.size w w' := by
 have hu33 := Try.underlying33
 have HR2_6 := Aside0.mk hr2_6
 have HC2_6 := Aside0.mk hc2_6
 clear hr2_6 hc2_6
 have HR2_7 := Aside0.mk hr2_7
 have HC2_7 := Aside0.mk hc2_7
 clear hr2_7 hc2_7
 have HB := Aside0.mk (Below.refl w.heap.size w)
 have H : (if a0 < 1 then (entrepotref12_lacks.j0 k a0 a1 true a2_0 a2_1 a2_2 a2_3 a2_4 a2_5 l2_6 l2_7) else (entrepotref12_lacks.j0 k a0 a1 (decide (a0 > 5)) a2_0 a2_1 a2_2 a2_3 a2_4 a2_5 l2_6 l2_7)) = some r := h
 clear h
 have HC4 := Aside0.mk H
 clear H
 go_enter Try.func24, Try.ntmps24
 go_upto_region 1 with (first | ((with_reducible refine gate_dst (N := 5) rfl ?_); refine box_event ?hg (N := 5) ?hd (cs := #[.string a2_0, .int .i64 a2_1, .int .i64 a2_2, .int .i64 a2_3, .int .i64 a2_4, .int .i64 a2_5, .slice A2_6 l2_6.length c2_6, .slice A2_7 l2_7.length c2_7]) (t := 33) ?hr ?_; (case hd => rfl); (case hg => rfl); (case hr => first | (go_simp; done) | (go_simp; rfl)); intro gb131 hg w5 hbox hb; have n0_ := Aside0.mk (below_step (by repeat (first | (with_reducible first | exact HB.out | apply below_alloc | apply pw_below_drewN | apply below_drew1) | exact HB.out)) hb); have n1_ := Aside0.mk (hbox); have n2_ := Aside0.mk ((by rw [hg]; exact (below_size (by repeat (first | (with_reducible first | exact HB.out | apply below_alloc | apply pw_below_drewN | apply below_drew1) | exact HB.out))) : w.heap.size ≤ gb131)); have n3_ := Aside0.mk ((by rw [hg]; exact (below_size (by repeat (first | (with_reducible first | exact HB.out | apply below_alloc | apply pw_below_drewN | apply below_drew1) | exact HB.out))) : w.heap.size ≤ gb131)); clear HB; have HB := n0_; have BK131 := n1_; have GW131 := n2_; have GE131 := n3_; clear n0_ n1_ n2_ n3_; clear hb hbox hg))
 (try simp only [Act.put, List.setIfInBounds_toArray, List.set_cons_zero, List.set_cons_succ])
 go_cut [7] (fun v7 wc => ∃ (kq : Nat) (x7_3 : Bool), v7 = .bool x7_3 ∧ Aside0 (entrepotref12_lacks.j0 kq a0 a1 x7_3 a2_0 a2_1 a2_2 a2_3 a2_4 a2_5 l2_6 l2_7 = some r) ∧ Aside0 (kq ≤ k) ∧ Aside0 (wc.heap[gb131]? = some (.cells #[.string a2_0, .int .i64 a2_1, .int .i64 a2_2, .int .i64 a2_3, .int .i64 a2_4, .int .i64 a2_5, (.slice A2_6 l2_6.length c2_6), (.slice A2_7 l2_7.length c2_7)] 33 (0, 0))) ∧ Aside0 (Below w.heap.size w wc))
 case first =>
  have H := HC4.out
  clear HC4
  by_cases c6 : a0 < 1
  ·rw [if_pos c6] at H
   have c6b0 : decide (a0 < 1) = true := decide_eq_true c6
   clear c6
   (first | rw [c6b0] | (simp only [i64_w, i32_w]; rw [c6b0]) | skip)
   have H' := Aside0.mk H
   clear H
   go_wp2
   go_meet
   case rel => exact ⟨_, (true), (by first | rfl | (simp; done) | (simp [*]; done)), H', ⟨by first | omega | exact Nat.le_refl _⟩, ⟨by (with_reducible repeat (first | refine blk_drewN ?_ _ | refine blk_drew ?_ | refine blk_alloc ?_ _)); exact BK131.out⟩, ⟨by repeat (first | (with_reducible first | exact HB.out | apply below_alloc | apply pw_below_drewN | apply below_drew1 | refine below_set ?_ GE131.out) | exact HB.out)⟩⟩
  ·rw [if_neg c6] at H
   have c6b0 : decide (a0 < 1) = false := decide_eq_false c6
   clear c6
   (first | rw [c6b0] | (simp only [i64_w, i32_w]; rw [c6b0]) | skip)
   have H' := Aside0.mk H
   clear H
   go_wp2
   go_meet
   case rel => exact ⟨_, (decide (a0 > 5)), (by first | rfl | (simp; done) | (simp [*]; done)), H', ⟨by first | omega | exact Nat.le_refl _⟩, ⟨by (with_reducible repeat (first | refine blk_drewN ?_ _ | refine blk_drew ?_ | refine blk_alloc ?_ _)); exact BK131.out⟩, ⟨by repeat (first | (with_reducible first | exact HB.out | apply below_alloc | apply pw_below_drewN | apply below_drew1 | refine below_set ?_ GE131.out) | exact HB.out)⟩⟩
 case rest =>
  clear HC4
  obtain ⟨kq, x7_3, rfl, HA, HJ3, BK131, HB⟩ := hcut
  cases kq with
  | zero => exact absurd HA.out (by simp [entrepotref12_lacks.j0])
  | succ kj3 =>
   have H := HA.out
   clear HA
   simp only [entrepotref12_lacks.j0] at H
   by_cases c7 : x7_3 = true
   ·subst c7
    have H1 : (some true) = some r := by rw [if_pos rfl] at H; exact H
    clear H
    have H := H1
    clear H1
    obtain rfl := Option.some.inj H
    go_wp2
    go_ret
    exact ⟨by first | rfl | (simp [errW_none, errW_some] <;> rfl) | (simp [*, errW_none, errW_some] <;> rfl), by repeat (first | (with_reducible first | exact HB.out | apply below_alloc | apply pw_below_drewN | apply below_drew1 | refine below_set ?_ GE131.out) | exact HB.out)⟩
   ·replace c7 := Bool.eq_false_iff.mpr c7
    subst c7
    have H1 : (if a0 > 3 then (some false) else (if a1 = 1 then (if a0 = 3 then (some (a2_0.toList != ([108, 105, 108, 105, 109] : List UInt8))) else (some false)) else (if a1 = 2 then (if a0 = 1 then (if a2_1 = 1 then (if a0 = 2 then (if a2_1 = 3 then (if a0 = 3 then (some (a2_1 != 4)) else (some false)) else (some true)) else (if a0 = 3 then (some (a2_1 != 4)) else (some false))) else (if a2_1 = 2 then (if a0 = 2 then (if a2_1 = 3 then (if a0 = 3 then (some (a2_1 != 4)) else (some false)) else (some true)) else (if a0 = 3 then (some (a2_1 != 4)) else (some false))) else (some true))) else (if a0 = 2 then (if a2_1 = 3 then (if a0 = 3 then (some (a2_1 != 4)) else (some false)) else (some true)) else (if a0 = 3 then (some (a2_1 != 4)) else (some false)))) else (if a1 = 3 then (if a0 = 1 then (if a2_2 < 0 then (some true) else (if a2_2 > 5 then (some true) else (if a0 > 1 then (some (a2_2 != 6)) else (some false)))) else (if a0 > 1 then (some (a2_2 != 6)) else (some false))) else (if a1 = 4 then (if a0 = 3 then (some (a2_3 != 0)) else (some false)) else (if a1 = 6 then (if a0 = 1 then (if a2_5 = 0 then (if a0 > 1 then (some (decide (a2_5 < 1))) else (some false)) else (some true)) else (if a0 > 1 then (some (decide (a2_5 < 1))) else (some false))) else (if a1 = 10 then (entrepotref12_lacks.j1 kj3 a0 a1 true a2_0 a2_1 a2_2 a2_3 a2_4 a2_5 l2_6 l2_7) else (entrepotref12_lacks.j1 kj3 a0 a1 (a1 == 13) a2_0 a2_1 a2_2 a2_3 a2_4 a2_5 l2_6 l2_7)))))))) = some r := by rw [if_neg (show ¬ (false = true) by decide)] at H; exact H
    clear H
    have H := H1
    clear H1
    by_cases c8 : a0 > 3
    ·rw [if_pos c8] at H
     have c8b0 : decide (3 < a0) = true := decide_eq_true c8
     clear c8
     obtain rfl := Option.some.inj H
     go_wp2
     go_ret
     exact ⟨by first | rfl | (simp [errW_none, errW_some] <;> rfl) | (simp [*, errW_none, errW_some] <;> rfl), by repeat (first | (with_reducible first | exact HB.out | apply below_alloc | apply pw_below_drewN | apply below_drew1 | refine below_set ?_ GE131.out) | exact HB.out)⟩
    ·rw [if_neg c8] at H
     have c8b0 : decide (3 < a0) = false := decide_eq_false c8
     clear c8
     by_cases c9 : a1 = 1
     ·rw [if_pos c9] at H
      have c9b0 : (a1 == 1) = true := beq_iff_eq.mpr c9
      have c9b1 : (a1 != 1) = false := bne_eq_false_iff_eq.mpr c9
      clear c9
      by_cases c10 : a0 = 3
      ·rw [if_pos c10] at H
       have c10b0 : (a0 == 3) = true := beq_iff_eq.mpr c10
       have c10b1 : (a0 != 3) = false := bne_eq_false_iff_eq.mpr c10
       clear c10
       obtain rfl := Option.some.inj H
       have hcz11_0 : wc.cell? ⟨gb131, 0, none⟩ = some (.string a2_0) := (blk_cell BK131.out 0).trans rfl
       have hcz11_1 : wc.cell? ⟨gb131, 1, none⟩ = some (.int .i64 a2_1) := (blk_cell BK131.out 1).trans rfl
       have hcz11_2 : wc.cell? ⟨gb131, 2, none⟩ = some (.int .i64 a2_2) := (blk_cell BK131.out 2).trans rfl
       have hcz11_3 : wc.cell? ⟨gb131, 3, none⟩ = some (.int .i64 a2_3) := (blk_cell BK131.out 3).trans rfl
       have hcz11_4 : wc.cell? ⟨gb131, 4, none⟩ = some (.int .i64 a2_4) := (blk_cell BK131.out 4).trans rfl
       have hcz11_5 : wc.cell? ⟨gb131, 5, none⟩ = some (.int .i64 a2_5) := (blk_cell BK131.out 5).trans rfl
       have hcz11_6 : wc.cell? ⟨gb131, 6, none⟩ = some (.slice A2_6 l2_6.length c2_6) := (blk_cell BK131.out 6).trans rfl
       have hcz11_7 : wc.cell? ⟨gb131, 7, none⟩ = some (.slice A2_7 l2_7.length c2_7) := (blk_cell BK131.out 7).trans rfl
       have hfz11_0 := blk_frozen BK131.out 0
       have hfz11_1 := blk_frozen BK131.out 1
       have hfz11_2 := blk_frozen BK131.out 2
       have hfz11_3 := blk_frozen BK131.out 3
       have hfz11_4 := blk_frozen BK131.out 4
       have hfz11_5 := blk_frozen BK131.out 5
       have hfz11_6 := blk_frozen BK131.out 6
       have hfz11_7 := blk_frozen BK131.out 7
       go_wp2
       go_ret
       exact ⟨by first | rfl | (simp [errW_none, errW_some] <;> rfl) | (simp [*, errW_none, errW_some] <;> rfl), by repeat (first | (with_reducible first | exact HB.out | apply below_alloc | apply pw_below_drewN | apply below_drew1 | refine below_set ?_ GE131.out) | exact HB.out)⟩
      ·rw [if_neg c10] at H
       have c10b0 : (a0 == 3) = false := beq_eq_false_iff_ne.mpr c10
       have c10b1 : (a0 != 3) = true := bne_iff_ne.mpr c10
       obtain rfl := Option.some.inj H
       go_wp2
       go_ret
       exact ⟨by first | rfl | (simp [errW_none, errW_some] <;> rfl) | (simp [*, errW_none, errW_some] <;> rfl), by repeat (first | (with_reducible first | exact HB.out | apply below_alloc | apply pw_below_drewN | apply below_drew1 | refine below_set ?_ GE131.out) | exact HB.out)⟩
     ·rw [if_neg c9] at H
      have c9b0 : (a1 == 1) = false := beq_eq_false_iff_ne.mpr c9
      have c9b1 : (a1 != 1) = true := bne_iff_ne.mpr c9
      by_cases c12 : a1 = 2
      ·rw [if_pos c12] at H
       have c12b0 : (a1 == 2) = true := beq_iff_eq.mpr c12
       have c12b1 : (a1 != 2) = false := bne_eq_false_iff_eq.mpr c12
       clear c12
       by_cases c13 : a0 = 1
       ·rw [if_pos c13] at H
        have c13b0 : (a0 == 1) = true := beq_iff_eq.mpr c13
        have c13b1 : (a0 != 1) = false := bne_eq_false_iff_eq.mpr c13
        clear c13
        by_cases c14 : a2_1 = 1
        ·rw [if_pos c14] at H
         have c14b0 : (a2_1 == 1) = true := beq_iff_eq.mpr c14
         have c14b1 : (a2_1 != 1) = false := bne_eq_false_iff_eq.mpr c14
         clear c14
         by_cases c15 : a0 = 2
         ·rw [if_pos c15] at H
          have c15b0 : (a0 == 2) = true := beq_iff_eq.mpr c15
          have c15b1 : (a0 != 2) = false := bne_eq_false_iff_eq.mpr c15
          clear c15
          by_cases c16 : a2_1 = 3
          ·rw [if_pos c16] at H
           have c16b0 : (a2_1 == 3) = true := beq_iff_eq.mpr c16
           have c16b1 : (a2_1 != 3) = false := bne_eq_false_iff_eq.mpr c16
           clear c16
           by_cases c17 : a0 = 3
           ·rw [if_pos c17] at H
            have c17b0 : (a0 == 3) = true := beq_iff_eq.mpr c17
            have c17b1 : (a0 != 3) = false := bne_eq_false_iff_eq.mpr c17
            clear c17
            obtain rfl := Option.some.inj H
            have hcz18_0 : wc.cell? ⟨gb131, 0, none⟩ = some (.string a2_0) := (blk_cell BK131.out 0).trans rfl
            have hcz18_1 : wc.cell? ⟨gb131, 1, none⟩ = some (.int .i64 a2_1) := (blk_cell BK131.out 1).trans rfl
            have hcz18_2 : wc.cell? ⟨gb131, 2, none⟩ = some (.int .i64 a2_2) := (blk_cell BK131.out 2).trans rfl
            have hcz18_3 : wc.cell? ⟨gb131, 3, none⟩ = some (.int .i64 a2_3) := (blk_cell BK131.out 3).trans rfl
            have hcz18_4 : wc.cell? ⟨gb131, 4, none⟩ = some (.int .i64 a2_4) := (blk_cell BK131.out 4).trans rfl
            have hcz18_5 : wc.cell? ⟨gb131, 5, none⟩ = some (.int .i64 a2_5) := (blk_cell BK131.out 5).trans rfl
            have hcz18_6 : wc.cell? ⟨gb131, 6, none⟩ = some (.slice A2_6 l2_6.length c2_6) := (blk_cell BK131.out 6).trans rfl
            have hcz18_7 : wc.cell? ⟨gb131, 7, none⟩ = some (.slice A2_7 l2_7.length c2_7) := (blk_cell BK131.out 7).trans rfl
            have hfz18_0 := blk_frozen BK131.out 0
            have hfz18_1 := blk_frozen BK131.out 1
            have hfz18_2 := blk_frozen BK131.out 2
            have hfz18_3 := blk_frozen BK131.out 3
            have hfz18_4 := blk_frozen BK131.out 4
            have hfz18_5 := blk_frozen BK131.out 5
            have hfz18_6 := blk_frozen BK131.out 6
            have hfz18_7 := blk_frozen BK131.out 7
            go_wp2
            go_ret
            exact ⟨by first | rfl | (simp [errW_none, errW_some] <;> rfl) | (simp [*, errW_none, errW_some] <;> rfl), by repeat (first | (with_reducible first | exact HB.out | apply below_alloc | apply pw_below_drewN | apply below_drew1 | refine below_set ?_ GE131.out) | exact HB.out)⟩
           ·rw [if_neg c17] at H
            have c17b0 : (a0 == 3) = false := beq_eq_false_iff_ne.mpr c17
            have c17b1 : (a0 != 3) = true := bne_iff_ne.mpr c17
            obtain rfl := Option.some.inj H
            have hcz19_0 : wc.cell? ⟨gb131, 0, none⟩ = some (.string a2_0) := (blk_cell BK131.out 0).trans rfl
            have hcz19_1 : wc.cell? ⟨gb131, 1, none⟩ = some (.int .i64 a2_1) := (blk_cell BK131.out 1).trans rfl
            have hcz19_2 : wc.cell? ⟨gb131, 2, none⟩ = some (.int .i64 a2_2) := (blk_cell BK131.out 2).trans rfl
            have hcz19_3 : wc.cell? ⟨gb131, 3, none⟩ = some (.int .i64 a2_3) := (blk_cell BK131.out 3).trans rfl
            have hcz19_4 : wc.cell? ⟨gb131, 4, none⟩ = some (.int .i64 a2_4) := (blk_cell BK131.out 4).trans rfl
            have hcz19_5 : wc.cell? ⟨gb131, 5, none⟩ = some (.int .i64 a2_5) := (blk_cell BK131.out 5).trans rfl
            have hcz19_6 : wc.cell? ⟨gb131, 6, none⟩ = some (.slice A2_6 l2_6.length c2_6) := (blk_cell BK131.out 6).trans rfl
            have hcz19_7 : wc.cell? ⟨gb131, 7, none⟩ = some (.slice A2_7 l2_7.length c2_7) := (blk_cell BK131.out 7).trans rfl
            have hfz19_0 := blk_frozen BK131.out 0
            have hfz19_1 := blk_frozen BK131.out 1
            have hfz19_2 := blk_frozen BK131.out 2
            have hfz19_3 := blk_frozen BK131.out 3
            have hfz19_4 := blk_frozen BK131.out 4
            have hfz19_5 := blk_frozen BK131.out 5
            have hfz19_6 := blk_frozen BK131.out 6
            have hfz19_7 := blk_frozen BK131.out 7
            go_wp2
            go_ret
            exact ⟨by first | rfl | (simp [errW_none, errW_some] <;> rfl) | (simp [*, errW_none, errW_some] <;> rfl), by repeat (first | (with_reducible first | exact HB.out | apply below_alloc | apply pw_below_drewN | apply below_drew1 | refine below_set ?_ GE131.out) | exact HB.out)⟩
          ·rw [if_neg c16] at H
           have c16b0 : (a2_1 == 3) = false := beq_eq_false_iff_ne.mpr c16
           have c16b1 : (a2_1 != 3) = true := bne_iff_ne.mpr c16
           obtain rfl := Option.some.inj H
           have hcz20_0 : wc.cell? ⟨gb131, 0, none⟩ = some (.string a2_0) := (blk_cell BK131.out 0).trans rfl
           have hcz20_1 : wc.cell? ⟨gb131, 1, none⟩ = some (.int .i64 a2_1) := (blk_cell BK131.out 1).trans rfl
           have hcz20_2 : wc.cell? ⟨gb131, 2, none⟩ = some (.int .i64 a2_2) := (blk_cell BK131.out 2).trans rfl
           have hcz20_3 : wc.cell? ⟨gb131, 3, none⟩ = some (.int .i64 a2_3) := (blk_cell BK131.out 3).trans rfl
           have hcz20_4 : wc.cell? ⟨gb131, 4, none⟩ = some (.int .i64 a2_4) := (blk_cell BK131.out 4).trans rfl
           have hcz20_5 : wc.cell? ⟨gb131, 5, none⟩ = some (.int .i64 a2_5) := (blk_cell BK131.out 5).trans rfl
           have hcz20_6 : wc.cell? ⟨gb131, 6, none⟩ = some (.slice A2_6 l2_6.length c2_6) := (blk_cell BK131.out 6).trans rfl
           have hcz20_7 : wc.cell? ⟨gb131, 7, none⟩ = some (.slice A2_7 l2_7.length c2_7) := (blk_cell BK131.out 7).trans rfl
           have hfz20_0 := blk_frozen BK131.out 0
           have hfz20_1 := blk_frozen BK131.out 1
           have hfz20_2 := blk_frozen BK131.out 2
           have hfz20_3 := blk_frozen BK131.out 3
           have hfz20_4 := blk_frozen BK131.out 4
           have hfz20_5 := blk_frozen BK131.out 5
           have hfz20_6 := blk_frozen BK131.out 6
           have hfz20_7 := blk_frozen BK131.out 7
           go_wp2
           go_ret
           exact ⟨by first | rfl | (simp [errW_none, errW_some] <;> rfl) | (simp [*, errW_none, errW_some] <;> rfl), by repeat (first | (with_reducible first | exact HB.out | apply below_alloc | apply pw_below_drewN | apply below_drew1 | refine below_set ?_ GE131.out) | exact HB.out)⟩
         ·rw [if_neg c15] at H
          have c15b0 : (a0 == 2) = false := beq_eq_false_iff_ne.mpr c15
          have c15b1 : (a0 != 2) = true := bne_iff_ne.mpr c15
          by_cases c21 : a0 = 3
          ·rw [if_pos c21] at H
           have c21b0 : (a0 == 3) = true := beq_iff_eq.mpr c21
           have c21b1 : (a0 != 3) = false := bne_eq_false_iff_eq.mpr c21
           clear c21
           obtain rfl := Option.some.inj H
           have hcz22_0 : wc.cell? ⟨gb131, 0, none⟩ = some (.string a2_0) := (blk_cell BK131.out 0).trans rfl
           have hcz22_1 : wc.cell? ⟨gb131, 1, none⟩ = some (.int .i64 a2_1) := (blk_cell BK131.out 1).trans rfl
           have hcz22_2 : wc.cell? ⟨gb131, 2, none⟩ = some (.int .i64 a2_2) := (blk_cell BK131.out 2).trans rfl
           have hcz22_3 : wc.cell? ⟨gb131, 3, none⟩ = some (.int .i64 a2_3) := (blk_cell BK131.out 3).trans rfl
           have hcz22_4 : wc.cell? ⟨gb131, 4, none⟩ = some (.int .i64 a2_4) := (blk_cell BK131.out 4).trans rfl
           have hcz22_5 : wc.cell? ⟨gb131, 5, none⟩ = some (.int .i64 a2_5) := (blk_cell BK131.out 5).trans rfl
           have hcz22_6 : wc.cell? ⟨gb131, 6, none⟩ = some (.slice A2_6 l2_6.length c2_6) := (blk_cell BK131.out 6).trans rfl
           have hcz22_7 : wc.cell? ⟨gb131, 7, none⟩ = some (.slice A2_7 l2_7.length c2_7) := (blk_cell BK131.out 7).trans rfl
           have hfz22_0 := blk_frozen BK131.out 0
           have hfz22_1 := blk_frozen BK131.out 1
           have hfz22_2 := blk_frozen BK131.out 2
           have hfz22_3 := blk_frozen BK131.out 3
           have hfz22_4 := blk_frozen BK131.out 4
           have hfz22_5 := blk_frozen BK131.out 5
           have hfz22_6 := blk_frozen BK131.out 6
           have hfz22_7 := blk_frozen BK131.out 7
           go_wp2
           go_ret
           exact ⟨by first | rfl | (simp [errW_none, errW_some] <;> rfl) | (simp [*, errW_none, errW_some] <;> rfl), by repeat (first | (with_reducible first | exact HB.out | apply below_alloc | apply pw_below_drewN | apply below_drew1 | refine below_set ?_ GE131.out) | exact HB.out)⟩
          ·rw [if_neg c21] at H
           have c21b0 : (a0 == 3) = false := beq_eq_false_iff_ne.mpr c21
           have c21b1 : (a0 != 3) = true := bne_iff_ne.mpr c21
           obtain rfl := Option.some.inj H
           have hcz23_0 : wc.cell? ⟨gb131, 0, none⟩ = some (.string a2_0) := (blk_cell BK131.out 0).trans rfl
           have hcz23_1 : wc.cell? ⟨gb131, 1, none⟩ = some (.int .i64 a2_1) := (blk_cell BK131.out 1).trans rfl
           have hcz23_2 : wc.cell? ⟨gb131, 2, none⟩ = some (.int .i64 a2_2) := (blk_cell BK131.out 2).trans rfl
           have hcz23_3 : wc.cell? ⟨gb131, 3, none⟩ = some (.int .i64 a2_3) := (blk_cell BK131.out 3).trans rfl
           have hcz23_4 : wc.cell? ⟨gb131, 4, none⟩ = some (.int .i64 a2_4) := (blk_cell BK131.out 4).trans rfl
           have hcz23_5 : wc.cell? ⟨gb131, 5, none⟩ = some (.int .i64 a2_5) := (blk_cell BK131.out 5).trans rfl
           have hcz23_6 : wc.cell? ⟨gb131, 6, none⟩ = some (.slice A2_6 l2_6.length c2_6) := (blk_cell BK131.out 6).trans rfl
           have hcz23_7 : wc.cell? ⟨gb131, 7, none⟩ = some (.slice A2_7 l2_7.length c2_7) := (blk_cell BK131.out 7).trans rfl
           have hfz23_0 := blk_frozen BK131.out 0
           have hfz23_1 := blk_frozen BK131.out 1
           have hfz23_2 := blk_frozen BK131.out 2
           have hfz23_3 := blk_frozen BK131.out 3
           have hfz23_4 := blk_frozen BK131.out 4
           have hfz23_5 := blk_frozen BK131.out 5
           have hfz23_6 := blk_frozen BK131.out 6
           have hfz23_7 := blk_frozen BK131.out 7
           go_wp2
           go_ret
           exact ⟨by first | rfl | (simp [errW_none, errW_some] <;> rfl) | (simp [*, errW_none, errW_some] <;> rfl), by repeat (first | (with_reducible first | exact HB.out | apply below_alloc | apply pw_below_drewN | apply below_drew1 | refine below_set ?_ GE131.out) | exact HB.out)⟩
        ·rw [if_neg c14] at H
         have c14b0 : (a2_1 == 1) = false := beq_eq_false_iff_ne.mpr c14
         have c14b1 : (a2_1 != 1) = true := bne_iff_ne.mpr c14
         by_cases c24 : a2_1 = 2
         ·rw [if_pos c24] at H
          have c24b0 : (a2_1 == 2) = true := beq_iff_eq.mpr c24
          have c24b1 : (a2_1 != 2) = false := bne_eq_false_iff_eq.mpr c24
          clear c24
          by_cases c25 : a0 = 2
          ·rw [if_pos c25] at H
           have c25b0 : (a0 == 2) = true := beq_iff_eq.mpr c25
           have c25b1 : (a0 != 2) = false := bne_eq_false_iff_eq.mpr c25
           clear c25
           by_cases c26 : a2_1 = 3
           ·rw [if_pos c26] at H
            have c26b0 : (a2_1 == 3) = true := beq_iff_eq.mpr c26
            have c26b1 : (a2_1 != 3) = false := bne_eq_false_iff_eq.mpr c26
            clear c26
            by_cases c27 : a0 = 3
            ·rw [if_pos c27] at H
             have c27b0 : (a0 == 3) = true := beq_iff_eq.mpr c27
             have c27b1 : (a0 != 3) = false := bne_eq_false_iff_eq.mpr c27
             clear c27
             obtain rfl := Option.some.inj H
             have hcz28_0 : wc.cell? ⟨gb131, 0, none⟩ = some (.string a2_0) := (blk_cell BK131.out 0).trans rfl
             have hcz28_1 : wc.cell? ⟨gb131, 1, none⟩ = some (.int .i64 a2_1) := (blk_cell BK131.out 1).trans rfl
             have hcz28_2 : wc.cell? ⟨gb131, 2, none⟩ = some (.int .i64 a2_2) := (blk_cell BK131.out 2).trans rfl
             have hcz28_3 : wc.cell? ⟨gb131, 3, none⟩ = some (.int .i64 a2_3) := (blk_cell BK131.out 3).trans rfl
             have hcz28_4 : wc.cell? ⟨gb131, 4, none⟩ = some (.int .i64 a2_4) := (blk_cell BK131.out 4).trans rfl
             have hcz28_5 : wc.cell? ⟨gb131, 5, none⟩ = some (.int .i64 a2_5) := (blk_cell BK131.out 5).trans rfl
             have hcz28_6 : wc.cell? ⟨gb131, 6, none⟩ = some (.slice A2_6 l2_6.length c2_6) := (blk_cell BK131.out 6).trans rfl
             have hcz28_7 : wc.cell? ⟨gb131, 7, none⟩ = some (.slice A2_7 l2_7.length c2_7) := (blk_cell BK131.out 7).trans rfl
             have hfz28_0 := blk_frozen BK131.out 0
             have hfz28_1 := blk_frozen BK131.out 1
             have hfz28_2 := blk_frozen BK131.out 2
             have hfz28_3 := blk_frozen BK131.out 3
             have hfz28_4 := blk_frozen BK131.out 4
             have hfz28_5 := blk_frozen BK131.out 5
             have hfz28_6 := blk_frozen BK131.out 6
             have hfz28_7 := blk_frozen BK131.out 7
             go_wp2
             go_ret
             exact ⟨by first | rfl | (simp [errW_none, errW_some] <;> rfl) | (simp [*, errW_none, errW_some] <;> rfl), by repeat (first | (with_reducible first | exact HB.out | apply below_alloc | apply pw_below_drewN | apply below_drew1 | refine below_set ?_ GE131.out) | exact HB.out)⟩
            ·rw [if_neg c27] at H
             have c27b0 : (a0 == 3) = false := beq_eq_false_iff_ne.mpr c27
             have c27b1 : (a0 != 3) = true := bne_iff_ne.mpr c27
             obtain rfl := Option.some.inj H
             have hcz29_0 : wc.cell? ⟨gb131, 0, none⟩ = some (.string a2_0) := (blk_cell BK131.out 0).trans rfl
             have hcz29_1 : wc.cell? ⟨gb131, 1, none⟩ = some (.int .i64 a2_1) := (blk_cell BK131.out 1).trans rfl
             have hcz29_2 : wc.cell? ⟨gb131, 2, none⟩ = some (.int .i64 a2_2) := (blk_cell BK131.out 2).trans rfl
             have hcz29_3 : wc.cell? ⟨gb131, 3, none⟩ = some (.int .i64 a2_3) := (blk_cell BK131.out 3).trans rfl
             have hcz29_4 : wc.cell? ⟨gb131, 4, none⟩ = some (.int .i64 a2_4) := (blk_cell BK131.out 4).trans rfl
             have hcz29_5 : wc.cell? ⟨gb131, 5, none⟩ = some (.int .i64 a2_5) := (blk_cell BK131.out 5).trans rfl
             have hcz29_6 : wc.cell? ⟨gb131, 6, none⟩ = some (.slice A2_6 l2_6.length c2_6) := (blk_cell BK131.out 6).trans rfl
             have hcz29_7 : wc.cell? ⟨gb131, 7, none⟩ = some (.slice A2_7 l2_7.length c2_7) := (blk_cell BK131.out 7).trans rfl
             have hfz29_0 := blk_frozen BK131.out 0
             have hfz29_1 := blk_frozen BK131.out 1
             have hfz29_2 := blk_frozen BK131.out 2
             have hfz29_3 := blk_frozen BK131.out 3
             have hfz29_4 := blk_frozen BK131.out 4
             have hfz29_5 := blk_frozen BK131.out 5
             have hfz29_6 := blk_frozen BK131.out 6
             have hfz29_7 := blk_frozen BK131.out 7
             go_wp2
             go_ret
             exact ⟨by first | rfl | (simp [errW_none, errW_some] <;> rfl) | (simp [*, errW_none, errW_some] <;> rfl), by repeat (first | (with_reducible first | exact HB.out | apply below_alloc | apply pw_below_drewN | apply below_drew1 | refine below_set ?_ GE131.out) | exact HB.out)⟩
           ·rw [if_neg c26] at H
            have c26b0 : (a2_1 == 3) = false := beq_eq_false_iff_ne.mpr c26
            have c26b1 : (a2_1 != 3) = true := bne_iff_ne.mpr c26
            obtain rfl := Option.some.inj H
            have hcz30_0 : wc.cell? ⟨gb131, 0, none⟩ = some (.string a2_0) := (blk_cell BK131.out 0).trans rfl
            have hcz30_1 : wc.cell? ⟨gb131, 1, none⟩ = some (.int .i64 a2_1) := (blk_cell BK131.out 1).trans rfl
            have hcz30_2 : wc.cell? ⟨gb131, 2, none⟩ = some (.int .i64 a2_2) := (blk_cell BK131.out 2).trans rfl
            have hcz30_3 : wc.cell? ⟨gb131, 3, none⟩ = some (.int .i64 a2_3) := (blk_cell BK131.out 3).trans rfl
            have hcz30_4 : wc.cell? ⟨gb131, 4, none⟩ = some (.int .i64 a2_4) := (blk_cell BK131.out 4).trans rfl
            have hcz30_5 : wc.cell? ⟨gb131, 5, none⟩ = some (.int .i64 a2_5) := (blk_cell BK131.out 5).trans rfl
            have hcz30_6 : wc.cell? ⟨gb131, 6, none⟩ = some (.slice A2_6 l2_6.length c2_6) := (blk_cell BK131.out 6).trans rfl
            have hcz30_7 : wc.cell? ⟨gb131, 7, none⟩ = some (.slice A2_7 l2_7.length c2_7) := (blk_cell BK131.out 7).trans rfl
            have hfz30_0 := blk_frozen BK131.out 0
            have hfz30_1 := blk_frozen BK131.out 1
            have hfz30_2 := blk_frozen BK131.out 2
            have hfz30_3 := blk_frozen BK131.out 3
            have hfz30_4 := blk_frozen BK131.out 4
            have hfz30_5 := blk_frozen BK131.out 5
            have hfz30_6 := blk_frozen BK131.out 6
            have hfz30_7 := blk_frozen BK131.out 7
            go_wp2
            go_ret
            exact ⟨by first | rfl | (simp [errW_none, errW_some] <;> rfl) | (simp [*, errW_none, errW_some] <;> rfl), by repeat (first | (with_reducible first | exact HB.out | apply below_alloc | apply pw_below_drewN | apply below_drew1 | refine below_set ?_ GE131.out) | exact HB.out)⟩
          ·rw [if_neg c25] at H
           have c25b0 : (a0 == 2) = false := beq_eq_false_iff_ne.mpr c25
           have c25b1 : (a0 != 2) = true := bne_iff_ne.mpr c25
           by_cases c31 : a0 = 3
           ·rw [if_pos c31] at H
            have c31b0 : (a0 == 3) = true := beq_iff_eq.mpr c31
            have c31b1 : (a0 != 3) = false := bne_eq_false_iff_eq.mpr c31
            clear c31
            obtain rfl := Option.some.inj H
            have hcz32_0 : wc.cell? ⟨gb131, 0, none⟩ = some (.string a2_0) := (blk_cell BK131.out 0).trans rfl
            have hcz32_1 : wc.cell? ⟨gb131, 1, none⟩ = some (.int .i64 a2_1) := (blk_cell BK131.out 1).trans rfl
            have hcz32_2 : wc.cell? ⟨gb131, 2, none⟩ = some (.int .i64 a2_2) := (blk_cell BK131.out 2).trans rfl
            have hcz32_3 : wc.cell? ⟨gb131, 3, none⟩ = some (.int .i64 a2_3) := (blk_cell BK131.out 3).trans rfl
            have hcz32_4 : wc.cell? ⟨gb131, 4, none⟩ = some (.int .i64 a2_4) := (blk_cell BK131.out 4).trans rfl
            have hcz32_5 : wc.cell? ⟨gb131, 5, none⟩ = some (.int .i64 a2_5) := (blk_cell BK131.out 5).trans rfl
            have hcz32_6 : wc.cell? ⟨gb131, 6, none⟩ = some (.slice A2_6 l2_6.length c2_6) := (blk_cell BK131.out 6).trans rfl
            have hcz32_7 : wc.cell? ⟨gb131, 7, none⟩ = some (.slice A2_7 l2_7.length c2_7) := (blk_cell BK131.out 7).trans rfl
            have hfz32_0 := blk_frozen BK131.out 0
            have hfz32_1 := blk_frozen BK131.out 1
            have hfz32_2 := blk_frozen BK131.out 2
            have hfz32_3 := blk_frozen BK131.out 3
            have hfz32_4 := blk_frozen BK131.out 4
            have hfz32_5 := blk_frozen BK131.out 5
            have hfz32_6 := blk_frozen BK131.out 6
            have hfz32_7 := blk_frozen BK131.out 7
            go_wp2
            go_ret
            exact ⟨by first | rfl | (simp [errW_none, errW_some] <;> rfl) | (simp [*, errW_none, errW_some] <;> rfl), by repeat (first | (with_reducible first | exact HB.out | apply below_alloc | apply pw_below_drewN | apply below_drew1 | refine below_set ?_ GE131.out) | exact HB.out)⟩
           ·rw [if_neg c31] at H
            have c31b0 : (a0 == 3) = false := beq_eq_false_iff_ne.mpr c31
            have c31b1 : (a0 != 3) = true := bne_iff_ne.mpr c31
            obtain rfl := Option.some.inj H
            have hcz33_0 : wc.cell? ⟨gb131, 0, none⟩ = some (.string a2_0) := (blk_cell BK131.out 0).trans rfl
            have hcz33_1 : wc.cell? ⟨gb131, 1, none⟩ = some (.int .i64 a2_1) := (blk_cell BK131.out 1).trans rfl
            have hcz33_2 : wc.cell? ⟨gb131, 2, none⟩ = some (.int .i64 a2_2) := (blk_cell BK131.out 2).trans rfl
            have hcz33_3 : wc.cell? ⟨gb131, 3, none⟩ = some (.int .i64 a2_3) := (blk_cell BK131.out 3).trans rfl
            have hcz33_4 : wc.cell? ⟨gb131, 4, none⟩ = some (.int .i64 a2_4) := (blk_cell BK131.out 4).trans rfl
            have hcz33_5 : wc.cell? ⟨gb131, 5, none⟩ = some (.int .i64 a2_5) := (blk_cell BK131.out 5).trans rfl
            have hcz33_6 : wc.cell? ⟨gb131, 6, none⟩ = some (.slice A2_6 l2_6.length c2_6) := (blk_cell BK131.out 6).trans rfl
            have hcz33_7 : wc.cell? ⟨gb131, 7, none⟩ = some (.slice A2_7 l2_7.length c2_7) := (blk_cell BK131.out 7).trans rfl
            have hfz33_0 := blk_frozen BK131.out 0
            have hfz33_1 := blk_frozen BK131.out 1
            have hfz33_2 := blk_frozen BK131.out 2
            have hfz33_3 := blk_frozen BK131.out 3
            have hfz33_4 := blk_frozen BK131.out 4
            have hfz33_5 := blk_frozen BK131.out 5
            have hfz33_6 := blk_frozen BK131.out 6
            have hfz33_7 := blk_frozen BK131.out 7
            go_wp2
            go_ret
            exact ⟨by first | rfl | (simp [errW_none, errW_some] <;> rfl) | (simp [*, errW_none, errW_some] <;> rfl), by repeat (first | (with_reducible first | exact HB.out | apply below_alloc | apply pw_below_drewN | apply below_drew1 | refine below_set ?_ GE131.out) | exact HB.out)⟩
         ·rw [if_neg c24] at H
          have c24b0 : (a2_1 == 2) = false := beq_eq_false_iff_ne.mpr c24
          have c24b1 : (a2_1 != 2) = true := bne_iff_ne.mpr c24
          obtain rfl := Option.some.inj H
          have hcz34_0 : wc.cell? ⟨gb131, 0, none⟩ = some (.string a2_0) := (blk_cell BK131.out 0).trans rfl
          have hcz34_1 : wc.cell? ⟨gb131, 1, none⟩ = some (.int .i64 a2_1) := (blk_cell BK131.out 1).trans rfl
          have hcz34_2 : wc.cell? ⟨gb131, 2, none⟩ = some (.int .i64 a2_2) := (blk_cell BK131.out 2).trans rfl
          have hcz34_3 : wc.cell? ⟨gb131, 3, none⟩ = some (.int .i64 a2_3) := (blk_cell BK131.out 3).trans rfl
          have hcz34_4 : wc.cell? ⟨gb131, 4, none⟩ = some (.int .i64 a2_4) := (blk_cell BK131.out 4).trans rfl
          have hcz34_5 : wc.cell? ⟨gb131, 5, none⟩ = some (.int .i64 a2_5) := (blk_cell BK131.out 5).trans rfl
          have hcz34_6 : wc.cell? ⟨gb131, 6, none⟩ = some (.slice A2_6 l2_6.length c2_6) := (blk_cell BK131.out 6).trans rfl
          have hcz34_7 : wc.cell? ⟨gb131, 7, none⟩ = some (.slice A2_7 l2_7.length c2_7) := (blk_cell BK131.out 7).trans rfl
          have hfz34_0 := blk_frozen BK131.out 0
          have hfz34_1 := blk_frozen BK131.out 1
          have hfz34_2 := blk_frozen BK131.out 2
          have hfz34_3 := blk_frozen BK131.out 3
          have hfz34_4 := blk_frozen BK131.out 4
          have hfz34_5 := blk_frozen BK131.out 5
          have hfz34_6 := blk_frozen BK131.out 6
          have hfz34_7 := blk_frozen BK131.out 7
          go_wp2
          go_ret
          exact ⟨by first | rfl | (simp [errW_none, errW_some] <;> rfl) | (simp [*, errW_none, errW_some] <;> rfl), by repeat (first | (with_reducible first | exact HB.out | apply below_alloc | apply pw_below_drewN | apply below_drew1 | refine below_set ?_ GE131.out) | exact HB.out)⟩
       ·rw [if_neg c13] at H
        have c13b0 : (a0 == 1) = false := beq_eq_false_iff_ne.mpr c13
        have c13b1 : (a0 != 1) = true := bne_iff_ne.mpr c13
        by_cases c35 : a0 = 2
        ·rw [if_pos c35] at H
         have c35b0 : (a0 == 2) = true := beq_iff_eq.mpr c35
         have c35b1 : (a0 != 2) = false := bne_eq_false_iff_eq.mpr c35
         clear c35
         by_cases c36 : a2_1 = 3
         ·rw [if_pos c36] at H
          have c36b0 : (a2_1 == 3) = true := beq_iff_eq.mpr c36
          have c36b1 : (a2_1 != 3) = false := bne_eq_false_iff_eq.mpr c36
          clear c36
          by_cases c37 : a0 = 3
          ·rw [if_pos c37] at H
           have c37b0 : (a0 == 3) = true := beq_iff_eq.mpr c37
           have c37b1 : (a0 != 3) = false := bne_eq_false_iff_eq.mpr c37
           clear c37
           obtain rfl := Option.some.inj H
           have hcz38_0 : wc.cell? ⟨gb131, 0, none⟩ = some (.string a2_0) := (blk_cell BK131.out 0).trans rfl
           have hcz38_1 : wc.cell? ⟨gb131, 1, none⟩ = some (.int .i64 a2_1) := (blk_cell BK131.out 1).trans rfl
           have hcz38_2 : wc.cell? ⟨gb131, 2, none⟩ = some (.int .i64 a2_2) := (blk_cell BK131.out 2).trans rfl
           have hcz38_3 : wc.cell? ⟨gb131, 3, none⟩ = some (.int .i64 a2_3) := (blk_cell BK131.out 3).trans rfl
           have hcz38_4 : wc.cell? ⟨gb131, 4, none⟩ = some (.int .i64 a2_4) := (blk_cell BK131.out 4).trans rfl
           have hcz38_5 : wc.cell? ⟨gb131, 5, none⟩ = some (.int .i64 a2_5) := (blk_cell BK131.out 5).trans rfl
           have hcz38_6 : wc.cell? ⟨gb131, 6, none⟩ = some (.slice A2_6 l2_6.length c2_6) := (blk_cell BK131.out 6).trans rfl
           have hcz38_7 : wc.cell? ⟨gb131, 7, none⟩ = some (.slice A2_7 l2_7.length c2_7) := (blk_cell BK131.out 7).trans rfl
           have hfz38_0 := blk_frozen BK131.out 0
           have hfz38_1 := blk_frozen BK131.out 1
           have hfz38_2 := blk_frozen BK131.out 2
           have hfz38_3 := blk_frozen BK131.out 3
           have hfz38_4 := blk_frozen BK131.out 4
           have hfz38_5 := blk_frozen BK131.out 5
           have hfz38_6 := blk_frozen BK131.out 6
           have hfz38_7 := blk_frozen BK131.out 7
           go_wp2
           go_ret
           exact ⟨by first | rfl | (simp [errW_none, errW_some] <;> rfl) | (simp [*, errW_none, errW_some] <;> rfl), by repeat (first | (with_reducible first | exact HB.out | apply below_alloc | apply pw_below_drewN | apply below_drew1 | refine below_set ?_ GE131.out) | exact HB.out)⟩
          ·rw [if_neg c37] at H
           have c37b0 : (a0 == 3) = false := beq_eq_false_iff_ne.mpr c37
           have c37b1 : (a0 != 3) = true := bne_iff_ne.mpr c37
           obtain rfl := Option.some.inj H
           have hcz39_0 : wc.cell? ⟨gb131, 0, none⟩ = some (.string a2_0) := (blk_cell BK131.out 0).trans rfl
           have hcz39_1 : wc.cell? ⟨gb131, 1, none⟩ = some (.int .i64 a2_1) := (blk_cell BK131.out 1).trans rfl
           have hcz39_2 : wc.cell? ⟨gb131, 2, none⟩ = some (.int .i64 a2_2) := (blk_cell BK131.out 2).trans rfl
           have hcz39_3 : wc.cell? ⟨gb131, 3, none⟩ = some (.int .i64 a2_3) := (blk_cell BK131.out 3).trans rfl
           have hcz39_4 : wc.cell? ⟨gb131, 4, none⟩ = some (.int .i64 a2_4) := (blk_cell BK131.out 4).trans rfl
           have hcz39_5 : wc.cell? ⟨gb131, 5, none⟩ = some (.int .i64 a2_5) := (blk_cell BK131.out 5).trans rfl
           have hcz39_6 : wc.cell? ⟨gb131, 6, none⟩ = some (.slice A2_6 l2_6.length c2_6) := (blk_cell BK131.out 6).trans rfl
           have hcz39_7 : wc.cell? ⟨gb131, 7, none⟩ = some (.slice A2_7 l2_7.length c2_7) := (blk_cell BK131.out 7).trans rfl
           have hfz39_0 := blk_frozen BK131.out 0
           have hfz39_1 := blk_frozen BK131.out 1
           have hfz39_2 := blk_frozen BK131.out 2
           have hfz39_3 := blk_frozen BK131.out 3
           have hfz39_4 := blk_frozen BK131.out 4
           have hfz39_5 := blk_frozen BK131.out 5
           have hfz39_6 := blk_frozen BK131.out 6
           have hfz39_7 := blk_frozen BK131.out 7
           go_wp2
           go_ret
           exact ⟨by first | rfl | (simp [errW_none, errW_some] <;> rfl) | (simp [*, errW_none, errW_some] <;> rfl), by repeat (first | (with_reducible first | exact HB.out | apply below_alloc | apply pw_below_drewN | apply below_drew1 | refine below_set ?_ GE131.out) | exact HB.out)⟩
         ·rw [if_neg c36] at H
          have c36b0 : (a2_1 == 3) = false := beq_eq_false_iff_ne.mpr c36
          have c36b1 : (a2_1 != 3) = true := bne_iff_ne.mpr c36
          obtain rfl := Option.some.inj H
          have hcz40_0 : wc.cell? ⟨gb131, 0, none⟩ = some (.string a2_0) := (blk_cell BK131.out 0).trans rfl
          have hcz40_1 : wc.cell? ⟨gb131, 1, none⟩ = some (.int .i64 a2_1) := (blk_cell BK131.out 1).trans rfl
          have hcz40_2 : wc.cell? ⟨gb131, 2, none⟩ = some (.int .i64 a2_2) := (blk_cell BK131.out 2).trans rfl
          have hcz40_3 : wc.cell? ⟨gb131, 3, none⟩ = some (.int .i64 a2_3) := (blk_cell BK131.out 3).trans rfl
          have hcz40_4 : wc.cell? ⟨gb131, 4, none⟩ = some (.int .i64 a2_4) := (blk_cell BK131.out 4).trans rfl
          have hcz40_5 : wc.cell? ⟨gb131, 5, none⟩ = some (.int .i64 a2_5) := (blk_cell BK131.out 5).trans rfl
          have hcz40_6 : wc.cell? ⟨gb131, 6, none⟩ = some (.slice A2_6 l2_6.length c2_6) := (blk_cell BK131.out 6).trans rfl
          have hcz40_7 : wc.cell? ⟨gb131, 7, none⟩ = some (.slice A2_7 l2_7.length c2_7) := (blk_cell BK131.out 7).trans rfl
          have hfz40_0 := blk_frozen BK131.out 0
          have hfz40_1 := blk_frozen BK131.out 1
          have hfz40_2 := blk_frozen BK131.out 2
          have hfz40_3 := blk_frozen BK131.out 3
          have hfz40_4 := blk_frozen BK131.out 4
          have hfz40_5 := blk_frozen BK131.out 5
          have hfz40_6 := blk_frozen BK131.out 6
          have hfz40_7 := blk_frozen BK131.out 7
          go_wp2
          go_ret
          exact ⟨by first | rfl | (simp [errW_none, errW_some] <;> rfl) | (simp [*, errW_none, errW_some] <;> rfl), by repeat (first | (with_reducible first | exact HB.out | apply below_alloc | apply pw_below_drewN | apply below_drew1 | refine below_set ?_ GE131.out) | exact HB.out)⟩
        ·rw [if_neg c35] at H
         have c35b0 : (a0 == 2) = false := beq_eq_false_iff_ne.mpr c35
         have c35b1 : (a0 != 2) = true := bne_iff_ne.mpr c35
         by_cases c41 : a0 = 3
         ·rw [if_pos c41] at H
          have c41b0 : (a0 == 3) = true := beq_iff_eq.mpr c41
          have c41b1 : (a0 != 3) = false := bne_eq_false_iff_eq.mpr c41
          clear c41
          obtain rfl := Option.some.inj H
          have hcz42_0 : wc.cell? ⟨gb131, 0, none⟩ = some (.string a2_0) := (blk_cell BK131.out 0).trans rfl
          have hcz42_1 : wc.cell? ⟨gb131, 1, none⟩ = some (.int .i64 a2_1) := (blk_cell BK131.out 1).trans rfl
          have hcz42_2 : wc.cell? ⟨gb131, 2, none⟩ = some (.int .i64 a2_2) := (blk_cell BK131.out 2).trans rfl
          have hcz42_3 : wc.cell? ⟨gb131, 3, none⟩ = some (.int .i64 a2_3) := (blk_cell BK131.out 3).trans rfl
          have hcz42_4 : wc.cell? ⟨gb131, 4, none⟩ = some (.int .i64 a2_4) := (blk_cell BK131.out 4).trans rfl
          have hcz42_5 : wc.cell? ⟨gb131, 5, none⟩ = some (.int .i64 a2_5) := (blk_cell BK131.out 5).trans rfl
          have hcz42_6 : wc.cell? ⟨gb131, 6, none⟩ = some (.slice A2_6 l2_6.length c2_6) := (blk_cell BK131.out 6).trans rfl
          have hcz42_7 : wc.cell? ⟨gb131, 7, none⟩ = some (.slice A2_7 l2_7.length c2_7) := (blk_cell BK131.out 7).trans rfl
          have hfz42_0 := blk_frozen BK131.out 0
          have hfz42_1 := blk_frozen BK131.out 1
          have hfz42_2 := blk_frozen BK131.out 2
          have hfz42_3 := blk_frozen BK131.out 3
          have hfz42_4 := blk_frozen BK131.out 4
          have hfz42_5 := blk_frozen BK131.out 5
          have hfz42_6 := blk_frozen BK131.out 6
          have hfz42_7 := blk_frozen BK131.out 7
          go_wp2
          go_ret
          exact ⟨by first | rfl | (simp [errW_none, errW_some] <;> rfl) | (simp [*, errW_none, errW_some] <;> rfl), by repeat (first | (with_reducible first | exact HB.out | apply below_alloc | apply pw_below_drewN | apply below_drew1 | refine below_set ?_ GE131.out) | exact HB.out)⟩
         ·rw [if_neg c41] at H
          have c41b0 : (a0 == 3) = false := beq_eq_false_iff_ne.mpr c41
          have c41b1 : (a0 != 3) = true := bne_iff_ne.mpr c41
          obtain rfl := Option.some.inj H
          go_wp2
          go_ret
          exact ⟨by first | rfl | (simp [errW_none, errW_some] <;> rfl) | (simp [*, errW_none, errW_some] <;> rfl), by repeat (first | (with_reducible first | exact HB.out | apply below_alloc | apply pw_below_drewN | apply below_drew1 | refine below_set ?_ GE131.out) | exact HB.out)⟩
      ·rw [if_neg c12] at H
       have c12b0 : (a1 == 2) = false := beq_eq_false_iff_ne.mpr c12
       have c12b1 : (a1 != 2) = true := bne_iff_ne.mpr c12
       by_cases c43 : a1 = 3
       ·rw [if_pos c43] at H
        have c43b0 : (a1 == 3) = true := beq_iff_eq.mpr c43
        have c43b1 : (a1 != 3) = false := bne_eq_false_iff_eq.mpr c43
        clear c43
        by_cases c44 : a0 = 1
        ·rw [if_pos c44] at H
         have c44b0 : (a0 == 1) = true := beq_iff_eq.mpr c44
         have c44b1 : (a0 != 1) = false := bne_eq_false_iff_eq.mpr c44
         clear c44
         by_cases c45 : a2_2 < 0
         ·rw [if_pos c45] at H
          have c45b0 : decide (a2_2 < 0) = true := decide_eq_true c45
          clear c45
          obtain rfl := Option.some.inj H
          have hcz46_0 : wc.cell? ⟨gb131, 0, none⟩ = some (.string a2_0) := (blk_cell BK131.out 0).trans rfl
          have hcz46_1 : wc.cell? ⟨gb131, 1, none⟩ = some (.int .i64 a2_1) := (blk_cell BK131.out 1).trans rfl
          have hcz46_2 : wc.cell? ⟨gb131, 2, none⟩ = some (.int .i64 a2_2) := (blk_cell BK131.out 2).trans rfl
          have hcz46_3 : wc.cell? ⟨gb131, 3, none⟩ = some (.int .i64 a2_3) := (blk_cell BK131.out 3).trans rfl
          have hcz46_4 : wc.cell? ⟨gb131, 4, none⟩ = some (.int .i64 a2_4) := (blk_cell BK131.out 4).trans rfl
          have hcz46_5 : wc.cell? ⟨gb131, 5, none⟩ = some (.int .i64 a2_5) := (blk_cell BK131.out 5).trans rfl
          have hcz46_6 : wc.cell? ⟨gb131, 6, none⟩ = some (.slice A2_6 l2_6.length c2_6) := (blk_cell BK131.out 6).trans rfl
          have hcz46_7 : wc.cell? ⟨gb131, 7, none⟩ = some (.slice A2_7 l2_7.length c2_7) := (blk_cell BK131.out 7).trans rfl
          have hfz46_0 := blk_frozen BK131.out 0
          have hfz46_1 := blk_frozen BK131.out 1
          have hfz46_2 := blk_frozen BK131.out 2
          have hfz46_3 := blk_frozen BK131.out 3
          have hfz46_4 := blk_frozen BK131.out 4
          have hfz46_5 := blk_frozen BK131.out 5
          have hfz46_6 := blk_frozen BK131.out 6
          have hfz46_7 := blk_frozen BK131.out 7
          go_wp2
          go_ret
          exact ⟨by first | rfl | (simp [errW_none, errW_some] <;> rfl) | (simp [*, errW_none, errW_some] <;> rfl), by repeat (first | (with_reducible first | exact HB.out | apply below_alloc | apply pw_below_drewN | apply below_drew1 | refine below_set ?_ GE131.out) | exact HB.out)⟩
         ·rw [if_neg c45] at H
          have c45b0 : decide (a2_2 < 0) = false := decide_eq_false c45
          clear c45
          by_cases c47 : a2_2 > 5
          ·rw [if_pos c47] at H
           have c47b0 : decide (5 < a2_2) = true := decide_eq_true c47
           clear c47
           obtain rfl := Option.some.inj H
           have hcz48_0 : wc.cell? ⟨gb131, 0, none⟩ = some (.string a2_0) := (blk_cell BK131.out 0).trans rfl
           have hcz48_1 : wc.cell? ⟨gb131, 1, none⟩ = some (.int .i64 a2_1) := (blk_cell BK131.out 1).trans rfl
           have hcz48_2 : wc.cell? ⟨gb131, 2, none⟩ = some (.int .i64 a2_2) := (blk_cell BK131.out 2).trans rfl
           have hcz48_3 : wc.cell? ⟨gb131, 3, none⟩ = some (.int .i64 a2_3) := (blk_cell BK131.out 3).trans rfl
           have hcz48_4 : wc.cell? ⟨gb131, 4, none⟩ = some (.int .i64 a2_4) := (blk_cell BK131.out 4).trans rfl
           have hcz48_5 : wc.cell? ⟨gb131, 5, none⟩ = some (.int .i64 a2_5) := (blk_cell BK131.out 5).trans rfl
           have hcz48_6 : wc.cell? ⟨gb131, 6, none⟩ = some (.slice A2_6 l2_6.length c2_6) := (blk_cell BK131.out 6).trans rfl
           have hcz48_7 : wc.cell? ⟨gb131, 7, none⟩ = some (.slice A2_7 l2_7.length c2_7) := (blk_cell BK131.out 7).trans rfl
           have hfz48_0 := blk_frozen BK131.out 0
           have hfz48_1 := blk_frozen BK131.out 1
           have hfz48_2 := blk_frozen BK131.out 2
           have hfz48_3 := blk_frozen BK131.out 3
           have hfz48_4 := blk_frozen BK131.out 4
           have hfz48_5 := blk_frozen BK131.out 5
           have hfz48_6 := blk_frozen BK131.out 6
           have hfz48_7 := blk_frozen BK131.out 7
           go_wp2
           go_ret
           exact ⟨by first | rfl | (simp [errW_none, errW_some] <;> rfl) | (simp [*, errW_none, errW_some] <;> rfl), by repeat (first | (with_reducible first | exact HB.out | apply below_alloc | apply pw_below_drewN | apply below_drew1 | refine below_set ?_ GE131.out) | exact HB.out)⟩
          ·rw [if_neg c47] at H
           have c47b0 : decide (5 < a2_2) = false := decide_eq_false c47
           clear c47
           by_cases c49 : a0 > 1
           ·rw [if_pos c49] at H
            have c49b0 : decide (1 < a0) = true := decide_eq_true c49
            clear c49
            obtain rfl := Option.some.inj H
            have hcz50_0 : wc.cell? ⟨gb131, 0, none⟩ = some (.string a2_0) := (blk_cell BK131.out 0).trans rfl
            have hcz50_1 : wc.cell? ⟨gb131, 1, none⟩ = some (.int .i64 a2_1) := (blk_cell BK131.out 1).trans rfl
            have hcz50_2 : wc.cell? ⟨gb131, 2, none⟩ = some (.int .i64 a2_2) := (blk_cell BK131.out 2).trans rfl
            have hcz50_3 : wc.cell? ⟨gb131, 3, none⟩ = some (.int .i64 a2_3) := (blk_cell BK131.out 3).trans rfl
            have hcz50_4 : wc.cell? ⟨gb131, 4, none⟩ = some (.int .i64 a2_4) := (blk_cell BK131.out 4).trans rfl
            have hcz50_5 : wc.cell? ⟨gb131, 5, none⟩ = some (.int .i64 a2_5) := (blk_cell BK131.out 5).trans rfl
            have hcz50_6 : wc.cell? ⟨gb131, 6, none⟩ = some (.slice A2_6 l2_6.length c2_6) := (blk_cell BK131.out 6).trans rfl
            have hcz50_7 : wc.cell? ⟨gb131, 7, none⟩ = some (.slice A2_7 l2_7.length c2_7) := (blk_cell BK131.out 7).trans rfl
            have hfz50_0 := blk_frozen BK131.out 0
            have hfz50_1 := blk_frozen BK131.out 1
            have hfz50_2 := blk_frozen BK131.out 2
            have hfz50_3 := blk_frozen BK131.out 3
            have hfz50_4 := blk_frozen BK131.out 4
            have hfz50_5 := blk_frozen BK131.out 5
            have hfz50_6 := blk_frozen BK131.out 6
            have hfz50_7 := blk_frozen BK131.out 7
            go_wp2
            go_ret
            exact ⟨by first | rfl | (simp [errW_none, errW_some] <;> rfl) | (simp [*, errW_none, errW_some] <;> rfl), by repeat (first | (with_reducible first | exact HB.out | apply below_alloc | apply pw_below_drewN | apply below_drew1 | refine below_set ?_ GE131.out) | exact HB.out)⟩
           ·rw [if_neg c49] at H
            have c49b0 : decide (1 < a0) = false := decide_eq_false c49
            clear c49
            obtain rfl := Option.some.inj H
            have hcz51_0 : wc.cell? ⟨gb131, 0, none⟩ = some (.string a2_0) := (blk_cell BK131.out 0).trans rfl
            have hcz51_1 : wc.cell? ⟨gb131, 1, none⟩ = some (.int .i64 a2_1) := (blk_cell BK131.out 1).trans rfl
            have hcz51_2 : wc.cell? ⟨gb131, 2, none⟩ = some (.int .i64 a2_2) := (blk_cell BK131.out 2).trans rfl
            have hcz51_3 : wc.cell? ⟨gb131, 3, none⟩ = some (.int .i64 a2_3) := (blk_cell BK131.out 3).trans rfl
            have hcz51_4 : wc.cell? ⟨gb131, 4, none⟩ = some (.int .i64 a2_4) := (blk_cell BK131.out 4).trans rfl
            have hcz51_5 : wc.cell? ⟨gb131, 5, none⟩ = some (.int .i64 a2_5) := (blk_cell BK131.out 5).trans rfl
            have hcz51_6 : wc.cell? ⟨gb131, 6, none⟩ = some (.slice A2_6 l2_6.length c2_6) := (blk_cell BK131.out 6).trans rfl
            have hcz51_7 : wc.cell? ⟨gb131, 7, none⟩ = some (.slice A2_7 l2_7.length c2_7) := (blk_cell BK131.out 7).trans rfl
            have hfz51_0 := blk_frozen BK131.out 0
            have hfz51_1 := blk_frozen BK131.out 1
            have hfz51_2 := blk_frozen BK131.out 2
            have hfz51_3 := blk_frozen BK131.out 3
            have hfz51_4 := blk_frozen BK131.out 4
            have hfz51_5 := blk_frozen BK131.out 5
            have hfz51_6 := blk_frozen BK131.out 6
            have hfz51_7 := blk_frozen BK131.out 7
            go_wp2
            go_ret
            exact ⟨by first | rfl | (simp [errW_none, errW_some] <;> rfl) | (simp [*, errW_none, errW_some] <;> rfl), by repeat (first | (with_reducible first | exact HB.out | apply below_alloc | apply pw_below_drewN | apply below_drew1 | refine below_set ?_ GE131.out) | exact HB.out)⟩
        ·rw [if_neg c44] at H
         have c44b0 : (a0 == 1) = false := beq_eq_false_iff_ne.mpr c44
         have c44b1 : (a0 != 1) = true := bne_iff_ne.mpr c44
         by_cases c52 : a0 > 1
         ·rw [if_pos c52] at H
          have c52b0 : decide (1 < a0) = true := decide_eq_true c52
          clear c52
          obtain rfl := Option.some.inj H
          have hcz53_0 : wc.cell? ⟨gb131, 0, none⟩ = some (.string a2_0) := (blk_cell BK131.out 0).trans rfl
          have hcz53_1 : wc.cell? ⟨gb131, 1, none⟩ = some (.int .i64 a2_1) := (blk_cell BK131.out 1).trans rfl
          have hcz53_2 : wc.cell? ⟨gb131, 2, none⟩ = some (.int .i64 a2_2) := (blk_cell BK131.out 2).trans rfl
          have hcz53_3 : wc.cell? ⟨gb131, 3, none⟩ = some (.int .i64 a2_3) := (blk_cell BK131.out 3).trans rfl
          have hcz53_4 : wc.cell? ⟨gb131, 4, none⟩ = some (.int .i64 a2_4) := (blk_cell BK131.out 4).trans rfl
          have hcz53_5 : wc.cell? ⟨gb131, 5, none⟩ = some (.int .i64 a2_5) := (blk_cell BK131.out 5).trans rfl
          have hcz53_6 : wc.cell? ⟨gb131, 6, none⟩ = some (.slice A2_6 l2_6.length c2_6) := (blk_cell BK131.out 6).trans rfl
          have hcz53_7 : wc.cell? ⟨gb131, 7, none⟩ = some (.slice A2_7 l2_7.length c2_7) := (blk_cell BK131.out 7).trans rfl
          have hfz53_0 := blk_frozen BK131.out 0
          have hfz53_1 := blk_frozen BK131.out 1
          have hfz53_2 := blk_frozen BK131.out 2
          have hfz53_3 := blk_frozen BK131.out 3
          have hfz53_4 := blk_frozen BK131.out 4
          have hfz53_5 := blk_frozen BK131.out 5
          have hfz53_6 := blk_frozen BK131.out 6
          have hfz53_7 := blk_frozen BK131.out 7
          go_wp2
          go_ret
          exact ⟨by first | rfl | (simp [errW_none, errW_some] <;> rfl) | (simp [*, errW_none, errW_some] <;> rfl), by repeat (first | (with_reducible first | exact HB.out | apply below_alloc | apply pw_below_drewN | apply below_drew1 | refine below_set ?_ GE131.out) | exact HB.out)⟩
         ·rw [if_neg c52] at H
          have c52b0 : decide (1 < a0) = false := decide_eq_false c52
          clear c52
          obtain rfl := Option.some.inj H
          go_wp2
          go_ret
          exact ⟨by first | rfl | (simp [errW_none, errW_some] <;> rfl) | (simp [*, errW_none, errW_some] <;> rfl), by repeat (first | (with_reducible first | exact HB.out | apply below_alloc | apply pw_below_drewN | apply below_drew1 | refine below_set ?_ GE131.out) | exact HB.out)⟩
       ·rw [if_neg c43] at H
        have c43b0 : (a1 == 3) = false := beq_eq_false_iff_ne.mpr c43
        have c43b1 : (a1 != 3) = true := bne_iff_ne.mpr c43
        by_cases c54 : a1 = 4
        ·rw [if_pos c54] at H
         have c54b0 : (a1 == 4) = true := beq_iff_eq.mpr c54
         have c54b1 : (a1 != 4) = false := bne_eq_false_iff_eq.mpr c54
         clear c54
         by_cases c55 : a0 = 3
         ·rw [if_pos c55] at H
          have c55b0 : (a0 == 3) = true := beq_iff_eq.mpr c55
          have c55b1 : (a0 != 3) = false := bne_eq_false_iff_eq.mpr c55
          clear c55
          obtain rfl := Option.some.inj H
          have hcz56_0 : wc.cell? ⟨gb131, 0, none⟩ = some (.string a2_0) := (blk_cell BK131.out 0).trans rfl
          have hcz56_1 : wc.cell? ⟨gb131, 1, none⟩ = some (.int .i64 a2_1) := (blk_cell BK131.out 1).trans rfl
          have hcz56_2 : wc.cell? ⟨gb131, 2, none⟩ = some (.int .i64 a2_2) := (blk_cell BK131.out 2).trans rfl
          have hcz56_3 : wc.cell? ⟨gb131, 3, none⟩ = some (.int .i64 a2_3) := (blk_cell BK131.out 3).trans rfl
          have hcz56_4 : wc.cell? ⟨gb131, 4, none⟩ = some (.int .i64 a2_4) := (blk_cell BK131.out 4).trans rfl
          have hcz56_5 : wc.cell? ⟨gb131, 5, none⟩ = some (.int .i64 a2_5) := (blk_cell BK131.out 5).trans rfl
          have hcz56_6 : wc.cell? ⟨gb131, 6, none⟩ = some (.slice A2_6 l2_6.length c2_6) := (blk_cell BK131.out 6).trans rfl
          have hcz56_7 : wc.cell? ⟨gb131, 7, none⟩ = some (.slice A2_7 l2_7.length c2_7) := (blk_cell BK131.out 7).trans rfl
          have hfz56_0 := blk_frozen BK131.out 0
          have hfz56_1 := blk_frozen BK131.out 1
          have hfz56_2 := blk_frozen BK131.out 2
          have hfz56_3 := blk_frozen BK131.out 3
          have hfz56_4 := blk_frozen BK131.out 4
          have hfz56_5 := blk_frozen BK131.out 5
          have hfz56_6 := blk_frozen BK131.out 6
          have hfz56_7 := blk_frozen BK131.out 7
          go_wp2
          go_ret
          exact ⟨by first | rfl | (simp [errW_none, errW_some] <;> rfl) | (simp [*, errW_none, errW_some] <;> rfl), by repeat (first | (with_reducible first | exact HB.out | apply below_alloc | apply pw_below_drewN | apply below_drew1 | refine below_set ?_ GE131.out) | exact HB.out)⟩
         ·rw [if_neg c55] at H
          have c55b0 : (a0 == 3) = false := beq_eq_false_iff_ne.mpr c55
          have c55b1 : (a0 != 3) = true := bne_iff_ne.mpr c55
          obtain rfl := Option.some.inj H
          go_wp2
          go_ret
          exact ⟨by first | rfl | (simp [errW_none, errW_some] <;> rfl) | (simp [*, errW_none, errW_some] <;> rfl), by repeat (first | (with_reducible first | exact HB.out | apply below_alloc | apply pw_below_drewN | apply below_drew1 | refine below_set ?_ GE131.out) | exact HB.out)⟩
        ·rw [if_neg c54] at H
         have c54b0 : (a1 == 4) = false := beq_eq_false_iff_ne.mpr c54
         have c54b1 : (a1 != 4) = true := bne_iff_ne.mpr c54
         by_cases c57 : a1 = 6
         ·rw [if_pos c57] at H
          have c57b0 : (a1 == 6) = true := beq_iff_eq.mpr c57
          have c57b1 : (a1 != 6) = false := bne_eq_false_iff_eq.mpr c57
          clear c57
          by_cases c58 : a0 = 1
          ·rw [if_pos c58] at H
           have c58b0 : (a0 == 1) = true := beq_iff_eq.mpr c58
           have c58b1 : (a0 != 1) = false := bne_eq_false_iff_eq.mpr c58
           clear c58
           by_cases c59 : a2_5 = 0
           ·rw [if_pos c59] at H
            have c59b0 : (a2_5 == 0) = true := beq_iff_eq.mpr c59
            have c59b1 : (a2_5 != 0) = false := bne_eq_false_iff_eq.mpr c59
            clear c59
            by_cases c60 : a0 > 1
            ·rw [if_pos c60] at H
             have c60b0 : decide (1 < a0) = true := decide_eq_true c60
             clear c60
             obtain rfl := Option.some.inj H
             have hcz61_0 : wc.cell? ⟨gb131, 0, none⟩ = some (.string a2_0) := (blk_cell BK131.out 0).trans rfl
             have hcz61_1 : wc.cell? ⟨gb131, 1, none⟩ = some (.int .i64 a2_1) := (blk_cell BK131.out 1).trans rfl
             have hcz61_2 : wc.cell? ⟨gb131, 2, none⟩ = some (.int .i64 a2_2) := (blk_cell BK131.out 2).trans rfl
             have hcz61_3 : wc.cell? ⟨gb131, 3, none⟩ = some (.int .i64 a2_3) := (blk_cell BK131.out 3).trans rfl
             have hcz61_4 : wc.cell? ⟨gb131, 4, none⟩ = some (.int .i64 a2_4) := (blk_cell BK131.out 4).trans rfl
             have hcz61_5 : wc.cell? ⟨gb131, 5, none⟩ = some (.int .i64 a2_5) := (blk_cell BK131.out 5).trans rfl
             have hcz61_6 : wc.cell? ⟨gb131, 6, none⟩ = some (.slice A2_6 l2_6.length c2_6) := (blk_cell BK131.out 6).trans rfl
             have hcz61_7 : wc.cell? ⟨gb131, 7, none⟩ = some (.slice A2_7 l2_7.length c2_7) := (blk_cell BK131.out 7).trans rfl
             have hfz61_0 := blk_frozen BK131.out 0
             have hfz61_1 := blk_frozen BK131.out 1
             have hfz61_2 := blk_frozen BK131.out 2
             have hfz61_3 := blk_frozen BK131.out 3
             have hfz61_4 := blk_frozen BK131.out 4
             have hfz61_5 := blk_frozen BK131.out 5
             have hfz61_6 := blk_frozen BK131.out 6
             have hfz61_7 := blk_frozen BK131.out 7
             go_wp2
             go_ret
             exact ⟨by first | rfl | (simp [errW_none, errW_some] <;> rfl) | (simp [*, errW_none, errW_some] <;> rfl), by repeat (first | (with_reducible first | exact HB.out | apply below_alloc | apply pw_below_drewN | apply below_drew1 | refine below_set ?_ GE131.out) | exact HB.out)⟩
            ·rw [if_neg c60] at H
             have c60b0 : decide (1 < a0) = false := decide_eq_false c60
             clear c60
             obtain rfl := Option.some.inj H
             have hcz62_0 : wc.cell? ⟨gb131, 0, none⟩ = some (.string a2_0) := (blk_cell BK131.out 0).trans rfl
             have hcz62_1 : wc.cell? ⟨gb131, 1, none⟩ = some (.int .i64 a2_1) := (blk_cell BK131.out 1).trans rfl
             have hcz62_2 : wc.cell? ⟨gb131, 2, none⟩ = some (.int .i64 a2_2) := (blk_cell BK131.out 2).trans rfl
             have hcz62_3 : wc.cell? ⟨gb131, 3, none⟩ = some (.int .i64 a2_3) := (blk_cell BK131.out 3).trans rfl
             have hcz62_4 : wc.cell? ⟨gb131, 4, none⟩ = some (.int .i64 a2_4) := (blk_cell BK131.out 4).trans rfl
             have hcz62_5 : wc.cell? ⟨gb131, 5, none⟩ = some (.int .i64 a2_5) := (blk_cell BK131.out 5).trans rfl
             have hcz62_6 : wc.cell? ⟨gb131, 6, none⟩ = some (.slice A2_6 l2_6.length c2_6) := (blk_cell BK131.out 6).trans rfl
             have hcz62_7 : wc.cell? ⟨gb131, 7, none⟩ = some (.slice A2_7 l2_7.length c2_7) := (blk_cell BK131.out 7).trans rfl
             have hfz62_0 := blk_frozen BK131.out 0
             have hfz62_1 := blk_frozen BK131.out 1
             have hfz62_2 := blk_frozen BK131.out 2
             have hfz62_3 := blk_frozen BK131.out 3
             have hfz62_4 := blk_frozen BK131.out 4
             have hfz62_5 := blk_frozen BK131.out 5
             have hfz62_6 := blk_frozen BK131.out 6
             have hfz62_7 := blk_frozen BK131.out 7
             go_wp2
             go_ret
             exact ⟨by first | rfl | (simp [errW_none, errW_some] <;> rfl) | (simp [*, errW_none, errW_some] <;> rfl), by repeat (first | (with_reducible first | exact HB.out | apply below_alloc | apply pw_below_drewN | apply below_drew1 | refine below_set ?_ GE131.out) | exact HB.out)⟩
           ·rw [if_neg c59] at H
            have c59b0 : (a2_5 == 0) = false := beq_eq_false_iff_ne.mpr c59
            have c59b1 : (a2_5 != 0) = true := bne_iff_ne.mpr c59
            obtain rfl := Option.some.inj H
            have hcz63_0 : wc.cell? ⟨gb131, 0, none⟩ = some (.string a2_0) := (blk_cell BK131.out 0).trans rfl
            have hcz63_1 : wc.cell? ⟨gb131, 1, none⟩ = some (.int .i64 a2_1) := (blk_cell BK131.out 1).trans rfl
            have hcz63_2 : wc.cell? ⟨gb131, 2, none⟩ = some (.int .i64 a2_2) := (blk_cell BK131.out 2).trans rfl
            have hcz63_3 : wc.cell? ⟨gb131, 3, none⟩ = some (.int .i64 a2_3) := (blk_cell BK131.out 3).trans rfl
            have hcz63_4 : wc.cell? ⟨gb131, 4, none⟩ = some (.int .i64 a2_4) := (blk_cell BK131.out 4).trans rfl
            have hcz63_5 : wc.cell? ⟨gb131, 5, none⟩ = some (.int .i64 a2_5) := (blk_cell BK131.out 5).trans rfl
            have hcz63_6 : wc.cell? ⟨gb131, 6, none⟩ = some (.slice A2_6 l2_6.length c2_6) := (blk_cell BK131.out 6).trans rfl
            have hcz63_7 : wc.cell? ⟨gb131, 7, none⟩ = some (.slice A2_7 l2_7.length c2_7) := (blk_cell BK131.out 7).trans rfl
            have hfz63_0 := blk_frozen BK131.out 0
            have hfz63_1 := blk_frozen BK131.out 1
            have hfz63_2 := blk_frozen BK131.out 2
            have hfz63_3 := blk_frozen BK131.out 3
            have hfz63_4 := blk_frozen BK131.out 4
            have hfz63_5 := blk_frozen BK131.out 5
            have hfz63_6 := blk_frozen BK131.out 6
            have hfz63_7 := blk_frozen BK131.out 7
            go_wp2
            go_ret
            exact ⟨by first | rfl | (simp [errW_none, errW_some] <;> rfl) | (simp [*, errW_none, errW_some] <;> rfl), by repeat (first | (with_reducible first | exact HB.out | apply below_alloc | apply pw_below_drewN | apply below_drew1 | refine below_set ?_ GE131.out) | exact HB.out)⟩
          ·rw [if_neg c58] at H
           have c58b0 : (a0 == 1) = false := beq_eq_false_iff_ne.mpr c58
           have c58b1 : (a0 != 1) = true := bne_iff_ne.mpr c58
           by_cases c64 : a0 > 1
           ·rw [if_pos c64] at H
            have c64b0 : decide (1 < a0) = true := decide_eq_true c64
            clear c64
            obtain rfl := Option.some.inj H
            have hcz65_0 : wc.cell? ⟨gb131, 0, none⟩ = some (.string a2_0) := (blk_cell BK131.out 0).trans rfl
            have hcz65_1 : wc.cell? ⟨gb131, 1, none⟩ = some (.int .i64 a2_1) := (blk_cell BK131.out 1).trans rfl
            have hcz65_2 : wc.cell? ⟨gb131, 2, none⟩ = some (.int .i64 a2_2) := (blk_cell BK131.out 2).trans rfl
            have hcz65_3 : wc.cell? ⟨gb131, 3, none⟩ = some (.int .i64 a2_3) := (blk_cell BK131.out 3).trans rfl
            have hcz65_4 : wc.cell? ⟨gb131, 4, none⟩ = some (.int .i64 a2_4) := (blk_cell BK131.out 4).trans rfl
            have hcz65_5 : wc.cell? ⟨gb131, 5, none⟩ = some (.int .i64 a2_5) := (blk_cell BK131.out 5).trans rfl
            have hcz65_6 : wc.cell? ⟨gb131, 6, none⟩ = some (.slice A2_6 l2_6.length c2_6) := (blk_cell BK131.out 6).trans rfl
            have hcz65_7 : wc.cell? ⟨gb131, 7, none⟩ = some (.slice A2_7 l2_7.length c2_7) := (blk_cell BK131.out 7).trans rfl
            have hfz65_0 := blk_frozen BK131.out 0
            have hfz65_1 := blk_frozen BK131.out 1
            have hfz65_2 := blk_frozen BK131.out 2
            have hfz65_3 := blk_frozen BK131.out 3
            have hfz65_4 := blk_frozen BK131.out 4
            have hfz65_5 := blk_frozen BK131.out 5
            have hfz65_6 := blk_frozen BK131.out 6
            have hfz65_7 := blk_frozen BK131.out 7
            go_wp2
            go_ret
            exact ⟨by first | rfl | (simp [errW_none, errW_some] <;> rfl) | (simp [*, errW_none, errW_some] <;> rfl), by repeat (first | (with_reducible first | exact HB.out | apply below_alloc | apply pw_below_drewN | apply below_drew1 | refine below_set ?_ GE131.out) | exact HB.out)⟩
           ·rw [if_neg c64] at H
            have c64b0 : decide (1 < a0) = false := decide_eq_false c64
            clear c64
            obtain rfl := Option.some.inj H
            go_wp2
            go_ret
            exact ⟨by first | rfl | (simp [errW_none, errW_some] <;> rfl) | (simp [*, errW_none, errW_some] <;> rfl), by repeat (first | (with_reducible first | exact HB.out | apply below_alloc | apply pw_below_drewN | apply below_drew1 | refine below_set ?_ GE131.out) | exact HB.out)⟩
         ·rw [if_neg c57] at H
          have c57b0 : (a1 == 6) = false := beq_eq_false_iff_ne.mpr c57
          have c57b1 : (a1 != 6) = true := bne_iff_ne.mpr c57
          have HC66 := Aside0.mk H
          clear H
          go_upto_region 15 with (fail)
          go_cut [113] (fun v113 wc => ∃ (kq : Nat) (x113_65 : Bool), v113 = .bool x113_65 ∧ Aside0 (entrepotref12_lacks.j1 kq a0 a1 x113_65 a2_0 a2_1 a2_2 a2_3 a2_4 a2_5 l2_6 l2_7 = some r) ∧ Aside0 (kq ≤ kj3) ∧ Aside0 (wc.heap[gb131]? = some (.cells #[.string a2_0, .int .i64 a2_1, .int .i64 a2_2, .int .i64 a2_3, .int .i64 a2_4, .int .i64 a2_5, (.slice A2_6 l2_6.length c2_6), (.slice A2_7 l2_7.length c2_7)] 33 (0, 0))) ∧ Aside0 (Below w.heap.size w wc))
          case first =>
           have H := HC66.out
           clear HC66
           by_cases c67 : a1 = 10
           ·rw [if_pos c67] at H
            have c67b0 : (a1 == 10) = true := beq_iff_eq.mpr c67
            have c67b1 : (a1 != 10) = false := bne_eq_false_iff_eq.mpr c67
            clear c67
            (first | rw [c67b0] | (simp only [i64_w, i32_w]; rw [c67b0]) | skip)
            have H' := Aside0.mk H
            clear H
            go_wp2
            go_meet
            case rel => exact ⟨_, (true), (by first | rfl | (simp; done) | (simp [*]; done)), H', ⟨by have := HJ3.out; first | omega | exact Nat.le_refl _⟩, ⟨by (with_reducible repeat (first | refine blk_drewN ?_ _ | refine blk_drew ?_ | refine blk_alloc ?_ _)); exact BK131.out⟩, ⟨by repeat (first | (with_reducible first | exact HB.out | apply below_alloc | apply pw_below_drewN | apply below_drew1 | refine below_set ?_ GE131.out) | exact HB.out)⟩⟩
           ·rw [if_neg c67] at H
            have c67b0 : (a1 == 10) = false := beq_eq_false_iff_ne.mpr c67
            have c67b1 : (a1 != 10) = true := bne_iff_ne.mpr c67
            (first | rw [c67b0] | (simp only [i64_w, i32_w]; rw [c67b0]) | skip)
            have H' := Aside0.mk H
            clear H
            go_wp2
            go_meet
            case rel => exact ⟨_, ((a1 == 13)), (by first | rfl | (simp; done) | (simp [*]; done)), H', ⟨by have := HJ3.out; first | omega | exact Nat.le_refl _⟩, ⟨by (with_reducible repeat (first | refine blk_drewN ?_ _ | refine blk_drew ?_ | refine blk_alloc ?_ _)); exact BK131.out⟩, ⟨by repeat (first | (with_reducible first | exact HB.out | apply below_alloc | apply pw_below_drewN | apply below_drew1 | refine below_set ?_ GE131.out) | exact HB.out)⟩⟩
          case rest =>
           clear HC66
           (try clear c12); (try clear c12b0); (try clear c12b1); (try clear c43); (try clear c43b0); (try clear c43b1); (try clear c54); (try clear c54b0); (try clear c54b1); (try clear c57); (try clear c57b0); (try clear c57b1)
           obtain ⟨kq, x113_65, rfl, HA, HJ65, BK131, HB⟩ := hcut
           cases kq with
           | zero => exact absurd HA.out (by simp [entrepotref12_lacks.j1])
           | succ kj65 =>
            have H := HA.out
            clear HA
            simp only [entrepotref12_lacks.j1] at H
            by_cases c68 : x113_65 = true
            ·subst c68
             have H1 : (if a0 < 3 then ((entrepotref12_some.f kj65 a2_0 a2_1 a2_2 a2_3 a2_4 a2_5 l2_6 l2_7 a1).bind fun t132 => (some t132)) else (some false)) = some r := by rw [if_pos rfl] at H; exact H
             clear H
             have H := H1
             clear H1
             by_cases c69 : a0 < 3
             ·rw [if_pos c69] at H
              have c69b0 : decide (a0 < 3) = true := decide_eq_true c69
              clear c69
              replace H := Option.bind_eq_some_iff.mp H
              obtain ⟨t132, A700, H⟩ := H
              replace H : (some t132) = some r := H
              have A70 := Aside0.mk A700
              clear A700
              obtain rfl := Option.some.inj H
              have hcz71_0 : wc.cell? ⟨gb131, 0, none⟩ = some (.string a2_0) := (blk_cell BK131.out 0).trans rfl
              have hcz71_1 : wc.cell? ⟨gb131, 1, none⟩ = some (.int .i64 a2_1) := (blk_cell BK131.out 1).trans rfl
              have hcz71_2 : wc.cell? ⟨gb131, 2, none⟩ = some (.int .i64 a2_2) := (blk_cell BK131.out 2).trans rfl
              have hcz71_3 : wc.cell? ⟨gb131, 3, none⟩ = some (.int .i64 a2_3) := (blk_cell BK131.out 3).trans rfl
              have hcz71_4 : wc.cell? ⟨gb131, 4, none⟩ = some (.int .i64 a2_4) := (blk_cell BK131.out 4).trans rfl
              have hcz71_5 : wc.cell? ⟨gb131, 5, none⟩ = some (.int .i64 a2_5) := (blk_cell BK131.out 5).trans rfl
              have hcz71_6 : wc.cell? ⟨gb131, 6, none⟩ = some (.slice A2_6 l2_6.length c2_6) := (blk_cell BK131.out 6).trans rfl
              have hcz71_7 : wc.cell? ⟨gb131, 7, none⟩ = some (.slice A2_7 l2_7.length c2_7) := (blk_cell BK131.out 7).trans rfl
              have hfz71_0 := blk_frozen BK131.out 0
              have hfz71_1 := blk_frozen BK131.out 1
              have hfz71_2 := blk_frozen BK131.out 2
              have hfz71_3 := blk_frozen BK131.out 3
              have hfz71_4 := blk_frozen BK131.out 4
              have hfz71_5 := blk_frozen BK131.out 5
              have hfz71_6 := blk_frozen BK131.out 6
              have hfz71_7 := blk_frozen BK131.out 7
              go_wp2_with (first | (go_at_call 27; (with_reducible refine (entrepotref12_some.calls kj65 a2_0 a2_1 a2_2 a2_3 a2_4 a2_5 _ _ l2_6 _ _ l2_7 a1 t132 _ ?side1 ?side2 ?side3 ?side4 A70.out).mono ?_); (case side1 => repeat (first | exact (Kd.C_below HR2_6.out HB.out) | (with_reducible refine Kd.C_alloc ?_ _) | (with_reducible refine Kd.C_drewN ?_ _) | (with_reducible refine Kd.C_drew ?_))); (case side2 => exact HC2_6.out); (case side3 => repeat (first | exact (Kd.C_below HR2_7.out HB.out) | (with_reducible refine Kd.C_alloc ?_ _) | (with_reducible refine Kd.C_drewN ?_ _) | (with_reducible refine Kd.C_drew ?_))); (case side4 => exact HC2_7.out); rintro e w72 ⟨rfl, hb⟩; have n0_ := Aside0.mk (blk_below (g := gb131) (o := .cells #[.string a2_0, .int .i64 a2_1, .int .i64 a2_2, .int .i64 a2_3, .int .i64 a2_4, .int .i64 a2_5, .slice A2_6 l2_6.length c2_6, .slice A2_7 l2_7.length c2_7] 33 (0, 0)) (by (with_reducible repeat (first | refine blk_drewN ?_ _ | refine blk_drew ?_ | refine blk_alloc ?_ _)); exact BK131.out) hb); have n1_ := Aside0.mk (below_step (by repeat (first | (with_reducible first | exact HB.out | apply below_alloc | apply pw_below_drewN | apply below_drew1 | refine below_set ?_ GE131.out) | exact HB.out)) hb); clear BK131; clear HB; have BK131 := n0_; have HB := n1_; clear n0_ n1_; (try clear hb); (try clear hb2); (try clear hk); (try clear hi)))
              go_ret
              exact ⟨by first | rfl | (simp [errW_none, errW_some] <;> rfl) | (simp [*, errW_none, errW_some] <;> rfl), by repeat (first | (with_reducible first | exact HB.out | apply below_alloc | apply pw_below_drewN | apply below_drew1 | refine below_set ?_ GE131.out) | exact HB.out)⟩
             ·rw [if_neg c69] at H
              have c69b0 : decide (a0 < 3) = false := decide_eq_false c69
              clear c69
              obtain rfl := Option.some.inj H
              go_wp2
              go_ret
              exact ⟨by first | rfl | (simp [errW_none, errW_some] <;> rfl) | (simp [*, errW_none, errW_some] <;> rfl), by repeat (first | (with_reducible first | exact HB.out | apply below_alloc | apply pw_below_drewN | apply below_drew1 | refine below_set ?_ GE131.out) | exact HB.out)⟩
            ·replace c68 := Bool.eq_false_iff.mpr c68
             subst c68
             have H1 : (if a1 = 11 then (if a0 = 1 then ((entrepotref12_some.f kj65 a2_0 a2_1 a2_2 a2_3 a2_4 a2_5 l2_6 l2_7 a1).bind fun t133 => (some t133)) else (some false)) else (if a1 = 12 then (if a0 = 1 then ((entrepotref12_some.f kj65 a2_0 a2_1 a2_2 a2_3 a2_4 a2_5 l2_6 l2_7 a1).bind fun t134 => (some t134)) else (some false)) else (some false))) = some r := by rw [if_neg (show ¬ (false = true) by decide)] at H; exact H
             clear H
             have H := H1
             clear H1
             by_cases c73 : a1 = 11
             ·rw [if_pos c73] at H
              have c73b0 : (a1 == 11) = true := beq_iff_eq.mpr c73
              have c73b1 : (a1 != 11) = false := bne_eq_false_iff_eq.mpr c73
              clear c73
              by_cases c74 : a0 = 1
              ·rw [if_pos c74] at H
               have c74b0 : (a0 == 1) = true := beq_iff_eq.mpr c74
               have c74b1 : (a0 != 1) = false := bne_eq_false_iff_eq.mpr c74
               clear c74
               replace H := Option.bind_eq_some_iff.mp H
               obtain ⟨t133, A750, H⟩ := H
               replace H : (some t133) = some r := H
               have A75 := Aside0.mk A750
               clear A750
               obtain rfl := Option.some.inj H
               have hcz76_0 : wc.cell? ⟨gb131, 0, none⟩ = some (.string a2_0) := (blk_cell BK131.out 0).trans rfl
               have hcz76_1 : wc.cell? ⟨gb131, 1, none⟩ = some (.int .i64 a2_1) := (blk_cell BK131.out 1).trans rfl
               have hcz76_2 : wc.cell? ⟨gb131, 2, none⟩ = some (.int .i64 a2_2) := (blk_cell BK131.out 2).trans rfl
               have hcz76_3 : wc.cell? ⟨gb131, 3, none⟩ = some (.int .i64 a2_3) := (blk_cell BK131.out 3).trans rfl
               have hcz76_4 : wc.cell? ⟨gb131, 4, none⟩ = some (.int .i64 a2_4) := (blk_cell BK131.out 4).trans rfl
               have hcz76_5 : wc.cell? ⟨gb131, 5, none⟩ = some (.int .i64 a2_5) := (blk_cell BK131.out 5).trans rfl
               have hcz76_6 : wc.cell? ⟨gb131, 6, none⟩ = some (.slice A2_6 l2_6.length c2_6) := (blk_cell BK131.out 6).trans rfl
               have hcz76_7 : wc.cell? ⟨gb131, 7, none⟩ = some (.slice A2_7 l2_7.length c2_7) := (blk_cell BK131.out 7).trans rfl
               have hfz76_0 := blk_frozen BK131.out 0
               have hfz76_1 := blk_frozen BK131.out 1
               have hfz76_2 := blk_frozen BK131.out 2
               have hfz76_3 := blk_frozen BK131.out 3
               have hfz76_4 := blk_frozen BK131.out 4
               have hfz76_5 := blk_frozen BK131.out 5
               have hfz76_6 := blk_frozen BK131.out 6
               have hfz76_7 := blk_frozen BK131.out 7
               go_wp2_with (first | (go_at_call 27; (with_reducible refine (entrepotref12_some.calls kj65 a2_0 a2_1 a2_2 a2_3 a2_4 a2_5 _ _ l2_6 _ _ l2_7 a1 t133 _ ?side1 ?side2 ?side3 ?side4 A75.out).mono ?_); (case side1 => repeat (first | exact (Kd.C_below HR2_6.out HB.out) | (with_reducible refine Kd.C_alloc ?_ _) | (with_reducible refine Kd.C_drewN ?_ _) | (with_reducible refine Kd.C_drew ?_))); (case side2 => exact HC2_6.out); (case side3 => repeat (first | exact (Kd.C_below HR2_7.out HB.out) | (with_reducible refine Kd.C_alloc ?_ _) | (with_reducible refine Kd.C_drewN ?_ _) | (with_reducible refine Kd.C_drew ?_))); (case side4 => exact HC2_7.out); rintro e w77 ⟨rfl, hb⟩; have n0_ := Aside0.mk (blk_below (g := gb131) (o := .cells #[.string a2_0, .int .i64 a2_1, .int .i64 a2_2, .int .i64 a2_3, .int .i64 a2_4, .int .i64 a2_5, .slice A2_6 l2_6.length c2_6, .slice A2_7 l2_7.length c2_7] 33 (0, 0)) (by (with_reducible repeat (first | refine blk_drewN ?_ _ | refine blk_drew ?_ | refine blk_alloc ?_ _)); exact BK131.out) hb); have n1_ := Aside0.mk (below_step (by repeat (first | (with_reducible first | exact HB.out | apply below_alloc | apply pw_below_drewN | apply below_drew1 | refine below_set ?_ GE131.out) | exact HB.out)) hb); clear BK131; clear HB; have BK131 := n0_; have HB := n1_; clear n0_ n1_; (try clear hb); (try clear hb2); (try clear hk); (try clear hi)))
               go_ret
               exact ⟨by first | rfl | (simp [errW_none, errW_some] <;> rfl) | (simp [*, errW_none, errW_some] <;> rfl), by repeat (first | (with_reducible first | exact HB.out | apply below_alloc | apply pw_below_drewN | apply below_drew1 | refine below_set ?_ GE131.out) | exact HB.out)⟩
              ·rw [if_neg c74] at H
               have c74b0 : (a0 == 1) = false := beq_eq_false_iff_ne.mpr c74
               have c74b1 : (a0 != 1) = true := bne_iff_ne.mpr c74
               obtain rfl := Option.some.inj H
               go_wp2
               go_ret
               exact ⟨by first | rfl | (simp [errW_none, errW_some] <;> rfl) | (simp [*, errW_none, errW_some] <;> rfl), by repeat (first | (with_reducible first | exact HB.out | apply below_alloc | apply pw_below_drewN | apply below_drew1 | refine below_set ?_ GE131.out) | exact HB.out)⟩
             ·rw [if_neg c73] at H
              have c73b0 : (a1 == 11) = false := beq_eq_false_iff_ne.mpr c73
              have c73b1 : (a1 != 11) = true := bne_iff_ne.mpr c73
              by_cases c78 : a1 = 12
              ·rw [if_pos c78] at H
               have c78b0 : (a1 == 12) = true := beq_iff_eq.mpr c78
               have c78b1 : (a1 != 12) = false := bne_eq_false_iff_eq.mpr c78
               clear c78
               by_cases c79 : a0 = 1
               ·rw [if_pos c79] at H
                have c79b0 : (a0 == 1) = true := beq_iff_eq.mpr c79
                have c79b1 : (a0 != 1) = false := bne_eq_false_iff_eq.mpr c79
                clear c79
                replace H := Option.bind_eq_some_iff.mp H
                obtain ⟨t134, A800, H⟩ := H
                replace H : (some t134) = some r := H
                have A80 := Aside0.mk A800
                clear A800
                obtain rfl := Option.some.inj H
                have hcz81_0 : wc.cell? ⟨gb131, 0, none⟩ = some (.string a2_0) := (blk_cell BK131.out 0).trans rfl
                have hcz81_1 : wc.cell? ⟨gb131, 1, none⟩ = some (.int .i64 a2_1) := (blk_cell BK131.out 1).trans rfl
                have hcz81_2 : wc.cell? ⟨gb131, 2, none⟩ = some (.int .i64 a2_2) := (blk_cell BK131.out 2).trans rfl
                have hcz81_3 : wc.cell? ⟨gb131, 3, none⟩ = some (.int .i64 a2_3) := (blk_cell BK131.out 3).trans rfl
                have hcz81_4 : wc.cell? ⟨gb131, 4, none⟩ = some (.int .i64 a2_4) := (blk_cell BK131.out 4).trans rfl
                have hcz81_5 : wc.cell? ⟨gb131, 5, none⟩ = some (.int .i64 a2_5) := (blk_cell BK131.out 5).trans rfl
                have hcz81_6 : wc.cell? ⟨gb131, 6, none⟩ = some (.slice A2_6 l2_6.length c2_6) := (blk_cell BK131.out 6).trans rfl
                have hcz81_7 : wc.cell? ⟨gb131, 7, none⟩ = some (.slice A2_7 l2_7.length c2_7) := (blk_cell BK131.out 7).trans rfl
                have hfz81_0 := blk_frozen BK131.out 0
                have hfz81_1 := blk_frozen BK131.out 1
                have hfz81_2 := blk_frozen BK131.out 2
                have hfz81_3 := blk_frozen BK131.out 3
                have hfz81_4 := blk_frozen BK131.out 4
                have hfz81_5 := blk_frozen BK131.out 5
                have hfz81_6 := blk_frozen BK131.out 6
                have hfz81_7 := blk_frozen BK131.out 7
                go_wp2_with (first | (go_at_call 27; (with_reducible refine (entrepotref12_some.calls kj65 a2_0 a2_1 a2_2 a2_3 a2_4 a2_5 _ _ l2_6 _ _ l2_7 a1 t134 _ ?side1 ?side2 ?side3 ?side4 A80.out).mono ?_); (case side1 => repeat (first | exact (Kd.C_below HR2_6.out HB.out) | (with_reducible refine Kd.C_alloc ?_ _) | (with_reducible refine Kd.C_drewN ?_ _) | (with_reducible refine Kd.C_drew ?_))); (case side2 => exact HC2_6.out); (case side3 => repeat (first | exact (Kd.C_below HR2_7.out HB.out) | (with_reducible refine Kd.C_alloc ?_ _) | (with_reducible refine Kd.C_drewN ?_ _) | (with_reducible refine Kd.C_drew ?_))); (case side4 => exact HC2_7.out); rintro e w82 ⟨rfl, hb⟩; have n0_ := Aside0.mk (blk_below (g := gb131) (o := .cells #[.string a2_0, .int .i64 a2_1, .int .i64 a2_2, .int .i64 a2_3, .int .i64 a2_4, .int .i64 a2_5, .slice A2_6 l2_6.length c2_6, .slice A2_7 l2_7.length c2_7] 33 (0, 0)) (by (with_reducible repeat (first | refine blk_drewN ?_ _ | refine blk_drew ?_ | refine blk_alloc ?_ _)); exact BK131.out) hb); have n1_ := Aside0.mk (below_step (by repeat (first | (with_reducible first | exact HB.out | apply below_alloc | apply pw_below_drewN | apply below_drew1 | refine below_set ?_ GE131.out) | exact HB.out)) hb); clear BK131; clear HB; have BK131 := n0_; have HB := n1_; clear n0_ n1_; (try clear hb); (try clear hb2); (try clear hk); (try clear hi)))
                go_ret
                exact ⟨by first | rfl | (simp [errW_none, errW_some] <;> rfl) | (simp [*, errW_none, errW_some] <;> rfl), by repeat (first | (with_reducible first | exact HB.out | apply below_alloc | apply pw_below_drewN | apply below_drew1 | refine below_set ?_ GE131.out) | exact HB.out)⟩
               ·rw [if_neg c79] at H
                have c79b0 : (a0 == 1) = false := beq_eq_false_iff_ne.mpr c79
                have c79b1 : (a0 != 1) = true := bne_iff_ne.mpr c79
                obtain rfl := Option.some.inj H
                go_wp2
                go_ret
                exact ⟨by first | rfl | (simp [errW_none, errW_some] <;> rfl) | (simp [*, errW_none, errW_some] <;> rfl), by repeat (first | (with_reducible first | exact HB.out | apply below_alloc | apply pw_below_drewN | apply below_drew1 | refine below_set ?_ GE131.out) | exact HB.out)⟩
              ·rw [if_neg c78] at H
               have c78b0 : (a1 == 12) = false := beq_eq_false_iff_ne.mpr c78
               have c78b1 : (a1 != 12) = true := bne_iff_ne.mpr c78
               obtain rfl := Option.some.inj H
               go_wp2
               go_ret
               exact ⟨by first | rfl | (simp [errW_none, errW_some] <;> rfl) | (simp [*, errW_none, errW_some] <;> rfl), by repeat (first | (with_reducible first | exact HB.out | apply below_alloc | apply pw_below_drewN | apply below_drew1 | refine below_set ?_ GE131.out) | exact HB.out)⟩

end Go.Proofs.Ytmapllahhpdedaa.P
