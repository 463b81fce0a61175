/- Written by a program of this session, after the kit's print: Lean functions for Go functions, and the proof that the machine comes to their answers. -/
import Derived.Test.YtdjkhcmblekeiaaPx0
import Derived.Test.YtdjkhcmblekeiaaGBlk
namespace Go.Proofs.Ytdjkhcmblekeiaa.P
open Go.RowKit Go.Proofs.YtdjkhcmblekeiaaW.PrintWords Go.Proofs.YtdjkhcmblekeiaaW.PrintLast Go.Proofs.YtdjkhcmblekeiaaW.PrintMore
attribute [local go_sem] max2_int min2_int max_two min_two max_three min_three max_four min_four   -- for this text's walks alone
set_option linter.unusedVariables false
set_option linter.unusedSimpArgs false

/-! ### entrepotref09_Find: function 11 -/
mutual
def entrepotref09_Find.l0 : Nat → Int → Int → List (List Int) → Option (Int × Int × Bool)
 | 0, _, _, _ => none
 | k + 1, x1, x7, x221000 => if x7 < (x221000.length : Int) then (entrepotref09_Find.l1 k x1 x7 0 x221000) else (some (0, 0, false))
def entrepotref09_Find.l1 : Nat → Int → Int → Int → List (List Int) → Option (Int × Int × Bool)
 | 0, _, _, _, _ => none
 | k + 1, x1, x7, x8, x221000 => if 0 ≤ x7 then (if x7 < (x221000.length : Int) then (if x8 < ((rd_L1 x221000 x7).length : Int) then (if 0 ≤ x8 then (if (rd (rd_L1 x221000 x7) x8) = x1 then (some (x7, x8, true)) else (entrepotref09_Find.l1 k x1 x7 (wrap64 (x8 + 1)) x221000)) else (none)) else (entrepotref09_Find.l0 k x1 (wrap64 (x7 + 1)) x221000)) else (none)) else (none)
end
def entrepotref09_Find.f (k : Nat) (l0_0 : List (List Int)) (a1 : Int) : Option (Int × Int × Bool) := entrepotref09_Find.l0 k a1 0 l0_0
theorem entrepotref09_Find.mono_l : ∀ k, (∀ y0 y1 y2, LeO (entrepotref09_Find.l0 k y0 y1 y2) (entrepotref09_Find.l0 (k + 1) y0 y1 y2)) ∧ (∀ y0 y1 y2 y3, LeO (entrepotref09_Find.l1 k y0 y1 y2 y3) (entrepotref09_Find.l1 (k + 1) y0 y1 y2 y3))
 | 0 => ⟨fun _ _ _ r h => by simp [entrepotref09_Find.l0] at h, fun _ _ _ _ r h => by simp [entrepotref09_Find.l1] at h⟩
 | k + 1 => by
  obtain ⟨ih0, ih1⟩ := entrepotref09_Find.mono_l k
  refine ⟨?_, ?_⟩
  ·intro y0 y1 y2
   unfold entrepotref09_Find.l0
   repeat' first
   | (with_reducible exact ih0 _ _ _)
   | (with_reducible exact ih1 _ _ _ _)
   | (with_reducible exact LeO.refl _)
   | (with_reducible exact LeO.none _)
   | (with_reducible refine LeO.ite ?_ ?_)
   | (with_reducible refine LeO.bind ?_ (fun _ => ?_))
   | exact ih0 _ _ _
   | exact ih1 _ _ _ _
   | exact LeO.none _
   | refine LeO.ite ?_ ?_
   | refine LeO.bind ?_ (fun _ => ?_)
  ·intro y0 y1 y2 y3
   unfold entrepotref09_Find.l1
   repeat' first
   | (with_reducible exact ih0 _ _ _)
   | (with_reducible exact ih1 _ _ _ _)
   | (with_reducible exact LeO.refl _)
   | (with_reducible exact LeO.none _)
   | (with_reducible refine LeO.ite ?_ ?_)
   | (with_reducible refine LeO.bind ?_ (fun _ => ?_))
   | exact ih0 _ _ _
   | exact ih1 _ _ _ _
   | exact LeO.none _
   | refine LeO.ite ?_ ?_
   | refine LeO.bind ?_ (fun _ => ?_)
theorem entrepotref09_Find.mono : ∀ a0 a1 k, LeO (entrepotref09_Find.f k a0 a1) (entrepotref09_Find.f (k + 1) a0 a1) := by
 intro a0 a1 k
 obtain ⟨ih0, ih1⟩ := entrepotref09_Find.mono_l k
 unfold entrepotref09_Find.f
 repeat' first
   | (with_reducible exact ih0 _ _ _)
   | (with_reducible exact ih1 _ _ _ _)
   | (with_reducible exact LeO.refl _)
   | (with_reducible exact LeO.none _)
   | (with_reducible refine LeO.ite ?_ ?_)
   | (with_reducible refine LeO.bind ?_ (fun _ => ?_))
   | exact ih0 _ _ _
   | exact ih1 _ _ _ _
   | exact LeO.none _
   | refine LeO.ite ?_ ?_
   | refine LeO.bind ?_ (fun _ => ?_)
set_option maxHeartbeats 8000000 in
set_option maxRecDepth 100000 in
theorem entrepotref09_Find.calls (k : Nat) (A0_0 : Option Addr) (c0_0 : Nat) (l0_0 : List (List Int)) (a1 : Int) (r1 : Int) (r2 : Int) (r3 : Bool) (w : World) (hr0_0 : Kd.C (Kd.slice 3 (Kd.int .i64)) w A0_0 l0_0.length l0_0) (hc0_0 : l0_0.length ≤ c0_0) (h : entrepotref09_Find.f k l0_0 a1 = some (r1, r2, r3)) :
  Calls Try.prog 11 #[.agg #[.slice A0_0 l0_0.length c0_0], .int .i64 a1] w fun e w' => e = .returned (.tuple #[.int .i64 r1, .int .i64 r2, .bool r3]) ∧ Below w.heap.size w w' := by
 have hu30 := Try.underlying30
 have HR0_0 := Aside0.mk hr0_0
 have HC0_0 := Aside0.mk hc0_0
 clear hr0_0 hc0_0
 have HB := Aside0.mk (Below.refl w.heap.size w)
 have H : (entrepotref09_Find.l0 k a1 0 l0_0) = some (r1, r2, r3) := h
 clear h
 have H' := Aside0.mk H
 clear H
 go_enter Try.func11, Try.ntmps11
 go_wp2_with (first | ((with_reducible refine gate_dst (N := 2) rfl ?_); refine box_event ?hg (N := 2) ?hd (cs := #[.slice A0_0 l0_0.length c0_0]) (t := 30) ?hr ?_; (case hd => rfl); (case hg => rfl); (case hr => first | (go_simp; done) | (go_simp; rfl)); intro gb220 hg w3 hbox hb; have n0_ := Aside0.mk (below_step (by repeat (first | (with_reducible first | exact HB.out | apply below_alloc | apply pw_below_drewN | apply below_drew1) | exact HB.out)) hb); have n1_ := Aside0.mk (hbox); have n2_ := Aside0.mk ((by rw [hg]; exact (below_size (by repeat (first | (with_reducible first | exact HB.out | apply below_alloc | apply pw_below_drewN | apply below_drew1) | exact HB.out))) : w.heap.size ≤ gb220)); have n3_ := Aside0.mk ((by rw [hg]; exact (below_size (by repeat (first | (with_reducible first | exact HB.out | apply below_alloc | apply pw_below_drewN | apply below_drew1) | exact HB.out))) : w.heap.size ≤ gb220)); clear HB; have HB := n0_; have BK220 := n1_; have GW220 := n2_; have GE220 := n3_; clear n0_ n1_ n2_ n3_; clear hb hbox hg))
 go_loopg [7] k (fun kq v7 w' => ∃ (x7_1 : Int), v7 = .int .i64 x7_1 ∧ Aside0 (entrepotref09_Find.l0 kq a1 x7_1 l0_0 = some (r1, r2, r3)) ∧ Aside0 (kq ≤ k) ∧ Aside0 (w'.heap[gb220]? = some (.cells #[(.slice A0_0 l0_0.length c0_0)] 30 (0, 0))) ∧ Aside0 (Below w.heap.size w w'))
 case atStart => exact ⟨(0), (by first | rfl | (simp; done) | (simp [*]; done)), H', ⟨Nat.le_refl _⟩, ⟨by (with_reducible repeat (first | refine blk_drewN ?_ _ | refine blk_drew ?_ | refine blk_alloc ?_ _)); exact BK220.out⟩, ⟨by repeat (first | (with_reducible first | exact HB.out | apply below_alloc | apply pw_below_drewN | apply below_drew1 | refine below_set ?_ GE220.out) | exact HB.out)⟩⟩
 case round =>
  clear H'
  obtain ⟨x7_1, rfl, HA, HK1, BK220, HB⟩ := hrel
  cases gk with
  | zero => exact absurd HA.out (by simp [entrepotref09_Find.l0])
  | succ k1 =>
   have H := HA.out
   clear HA
   simp only [entrepotref09_Find.l0] at H
   by_cases c4 : x7_1 < (l0_0.length : Int)
   ·rw [if_pos c4] at H
    have c4b0 : decide (x7_1 < (l0_0.length : Int)) = true := decide_eq_true c4
    clear c4
    have H' := Aside0.mk H
    clear H
    obtain ⟨hcz5_0, hfz5_0⟩ := blk1_ BK220.out
    go_wp2
    go_loopg [8] k1 (fun kq v8 w' => ∃ (x8_2 : Int), v8 = .int .i64 x8_2 ∧ Aside0 (entrepotref09_Find.l1 kq a1 x7_1 x8_2 l0_0 = some (r1, r2, r3)) ∧ Aside0 (kq ≤ k1) ∧ Aside0 (w'.heap[gb220]? = some (.cells #[(.slice A0_0 l0_0.length c0_0)] 30 (0, 0))) ∧ Aside0 (Below w.heap.size w w'))
    case atStart => exact ⟨(0), (by first | rfl | (simp; done) | (simp [*]; done)), H', ⟨Nat.le_refl _⟩, ⟨by (with_reducible repeat (first | refine blk_drewN ?_ _ | refine blk_drew ?_ | refine blk_alloc ?_ _)); exact BK220.out⟩, ⟨by repeat (first | (with_reducible first | exact HB.out | apply below_alloc | apply pw_below_drewN | apply below_drew1 | refine below_set ?_ GE220.out) | exact HB.out)⟩⟩
    case round =>
     clear H'
     (try clear c4); (try clear c4b0); (try clear hcz5_0); (try clear hfz5_0)
     obtain ⟨x8_2, rfl, HA, HK2, BK220, HB⟩ := hrel
     cases gk with
     | zero => exact absurd HA.out (by simp [entrepotref09_Find.l1])
     | succ k2 =>
      have H := HA.out
      clear HA
      simp only [entrepotref09_Find.l1] at H
      by_cases c6 : 0 ≤ x7_1
      ·rw [if_pos c6] at H
       have c6b0 : decide (0 ≤ x7_1) = true := decide_eq_true c6
       clear c6
       by_cases c7 : x7_1 < (l0_0.length : Int)
       ·rw [if_pos c7] at H
        have c7b0 : decide (x7_1 < (l0_0.length : Int)) = true := decide_eq_true c7
        clear c7
        by_cases c8 : x8_2 < ((rd_L1 l0_0 x7_1).length : Int)
        ·rw [if_pos c8] at H
         have c8b0 : decide (x8_2 < ((rd_L1 l0_0 x7_1).length : Int)) = true := decide_eq_true c8
         clear c8
         by_cases c9 : 0 ≤ x8_2
         ·rw [if_pos c9] at H
          have c9b0 : decide (0 ≤ x8_2) = true := decide_eq_true c9
          clear c9
          by_cases c10 : (rd (rd_L1 l0_0 x7_1) x8_2) = a1
          ·rw [if_pos c10] at H
           have c10b0 : ((rd (rd_L1 l0_0 x7_1) x8_2) == a1) = true := beq_iff_eq.mpr c10
           have c10b1 : ((rd (rd_L1 l0_0 x7_1) x8_2) != a1) = false := bne_eq_false_iff_eq.mpr c10
           clear c10
           simp only [Option.some.injEq, Prod.mk.injEq] at H
           obtain ⟨rfl, rfl, rfl⟩ := H
           obtain ⟨hcz11_0, hfz11_0⟩ := blk1_ BK220.out
           have p221 : 0 ≤ (x7_1 : Int) := of_decide_eq_true (by first | (with_reducible assumption) | assumption)
           have q221 : x7_1 < (l0_0.length : Int) := of_decide_eq_true (by first | (with_reducible assumption) | assumption)
           obtain ⟨ad221, A221_0, c221_0, e221, hx221_0, hl221_0, hi221_0⟩ := at_L1 HR0_0.out x7_1 p221 q221
           cases e221
           replace hx221_0 := (HB.out.cell (World.block_lt_of_cell? w _ hx221_0)).trans hx221_0
           have HR221_0 := Aside0.mk hi221_0
           have HC221_0 := Aside0.mk hl221_0
           clear hi221_0 hl221_0
           replace p221 := eq_true p221
           replace q221 := eq_true q221
           have p222 : 0 ≤ (x7_1 : Int) := of_decide_eq_true (by first | (with_reducible assumption) | assumption)
           have q222 : x7_1 < (l0_0.length : Int) := of_decide_eq_true (by first | (with_reducible assumption) | assumption)
           obtain ⟨ad222, A222_0, c222_0, e222, hx222_0, hl222_0, hi222_0⟩ := at_L1 HR0_0.out x7_1 p222 q222
           obtain rfl : ad221 = ad222 := (by injection e222)
           replace hx222_0 := (HB.out.cell (World.block_lt_of_cell? w _ hx222_0)).trans hx222_0
           have HR222_0 := Aside0.mk hi222_0
           have HC222_0 := Aside0.mk hl222_0
           clear hi222_0 hl222_0
           replace p222 := eq_true p222
           replace q222 := eq_true q222
           have ea_ := Option.some.inj (hx221_0.symm.trans hx222_0)
           injection ea_ with ea_ en_ ec_
           subst ea_
           subst ec_
           clear en_
           have p223 : 0 ≤ (x8_2 : Int) := of_decide_eq_true (by first | (with_reducible assumption) | assumption)
           have q223 : x8_2 < ((rd_L1 l0_0 x7_1).length : Int) := of_decide_eq_true (by first | (with_reducible assumption) | assumption)
           obtain ⟨ad223, e223, hx223_0⟩ := Kd.at_int HR222_0.out x8_2 p223 q223
           cases e223
           replace hx223_0 := (HB.out.cell (World.block_lt_of_cell? w _ hx223_0)).trans hx223_0
           replace p223 := eq_true p223
           replace q223 := eq_true q223
           go_wp2
           go_ret3
           exact ⟨by first | rfl | (simp [errW_none, errW_some] <;> rfl) | (simp [*, errW_none, errW_some] <;> rfl), by repeat (first | (with_reducible first | exact HB.out | apply below_alloc | apply pw_below_drewN | apply below_drew1 | refine below_set ?_ GE220.out) | exact HB.out)⟩
          ·rw [if_neg c10] at H
           have c10b0 : ((rd (rd_L1 l0_0 x7_1) x8_2) == a1) = false := beq_eq_false_iff_ne.mpr c10
           have c10b1 : ((rd (rd_L1 l0_0 x7_1) x8_2) != a1) = true := bne_iff_ne.mpr c10
           have H' := Aside0.mk H
           clear H
           obtain ⟨hcz12_0, hfz12_0⟩ := blk1_ BK220.out
           have p221 : 0 ≤ (x7_1 : Int) := of_decide_eq_true (by first | (with_reducible assumption) | assumption)
           have q221 : x7_1 < (l0_0.length : Int) := of_decide_eq_true (by first | (with_reducible assumption) | assumption)
           obtain ⟨ad221, A221_0, c221_0, e221, hx221_0, hl221_0, hi221_0⟩ := at_L1 HR0_0.out x7_1 p221 q221
           cases e221
           replace hx221_0 := (HB.out.cell (World.block_lt_of_cell? w _ hx221_0)).trans hx221_0
           have HR221_0 := Aside0.mk hi221_0
           have HC221_0 := Aside0.mk hl221_0
           clear hi221_0 hl221_0
           replace p221 := eq_true p221
           replace q221 := eq_true q221
           have p222 : 0 ≤ (x7_1 : Int) := of_decide_eq_true (by first | (with_reducible assumption) | assumption)
           have q222 : x7_1 < (l0_0.length : Int) := of_decide_eq_true (by first | (with_reducible assumption) | assumption)
           obtain ⟨ad222, A222_0, c222_0, e222, hx222_0, hl222_0, hi222_0⟩ := at_L1 HR0_0.out x7_1 p222 q222
           obtain rfl : ad221 = ad222 := (by injection e222)
           replace hx222_0 := (HB.out.cell (World.block_lt_of_cell? w _ hx222_0)).trans hx222_0
           have HR222_0 := Aside0.mk hi222_0
           have HC222_0 := Aside0.mk hl222_0
           clear hi222_0 hl222_0
           replace p222 := eq_true p222
           replace q222 := eq_true q222
           have ea_ := Option.some.inj (hx221_0.symm.trans hx222_0)
           injection ea_ with ea_ en_ ec_
           subst ea_
           subst ec_
           clear en_
           have p223 : 0 ≤ (x8_2 : Int) := of_decide_eq_true (by first | (with_reducible assumption) | assumption)
           have q223 : x8_2 < ((rd_L1 l0_0 x7_1).length : Int) := of_decide_eq_true (by first | (with_reducible assumption) | assumption)
           obtain ⟨ad223, e223, hx223_0⟩ := Kd.at_int HR222_0.out x8_2 p223 q223
           cases e223
           replace hx223_0 := (HB.out.cell (World.block_lt_of_cell? w _ hx223_0)).trans hx223_0
           replace p223 := eq_true p223
           replace q223 := eq_true q223
           go_wp2
           go_roundg k2
           case measure => have := HK1.out; have := HK2.out; omega
           case rel => exact ⟨(wrap64 (x8_2 + 1)), (by first | rfl | (simp; done) | (simp [*]; done)), H', ⟨by have := HK1.out; have := HK2.out; omega⟩, ⟨by (with_reducible repeat (first | refine blk_drewN ?_ _ | refine blk_drew ?_ | refine blk_alloc ?_ _)); exact BK220.out⟩, ⟨by repeat (first | (with_reducible first | exact HB.out | apply below_alloc | apply pw_below_drewN | apply below_drew1 | refine below_set ?_ GE220.out) | exact HB.out)⟩⟩
         ·rw [if_neg c9] at H
          exact absurd H (by simp)
        ·rw [if_neg c8] at H
         have c8b0 : decide (x8_2 < ((rd_L1 l0_0 x7_1).length : Int)) = false := decide_eq_false c8
         clear c8
         have H' := Aside0.mk H
         clear H
         obtain ⟨hcz13_0, hfz13_0⟩ := blk1_ BK220.out
         have p221 : 0 ≤ (x7_1 : Int) := of_decide_eq_true (by first | (with_reducible assumption) | assumption)
         have q221 : x7_1 < (l0_0.length : Int) := of_decide_eq_true (by first | (with_reducible assumption) | assumption)
         obtain ⟨ad221, A221_0, c221_0, e221, hx221_0, hl221_0, hi221_0⟩ := at_L1 HR0_0.out x7_1 p221 q221
         cases e221
         replace hx221_0 := (HB.out.cell (World.block_lt_of_cell? w _ hx221_0)).trans hx221_0
         have HR221_0 := Aside0.mk hi221_0
         have HC221_0 := Aside0.mk hl221_0
         clear hi221_0 hl221_0
         replace p221 := eq_true p221
         replace q221 := eq_true q221
         go_wp2
         go_roundg k2
         case measure => have := HK1.out; have := HK2.out; omega
         case rel => exact ⟨(wrap64 (x7_1 + 1)), (by first | rfl | (simp; done) | (simp [*]; done)), H', ⟨by have := HK1.out; have := HK2.out; omega⟩, ⟨by (with_reducible repeat (first | refine blk_drewN ?_ _ | refine blk_drew ?_ | refine blk_alloc ?_ _)); exact BK220.out⟩, ⟨by repeat (first | (with_reducible first | exact HB.out | apply below_alloc | apply pw_below_drewN | apply below_drew1 | refine below_set ?_ GE220.out) | exact HB.out)⟩⟩
       ·rw [if_neg c7] at H
        exact absurd H (by simp)
      ·rw [if_neg c6] at H
       exact absurd H (by simp)
   ·rw [if_neg c4] at H
    have c4b0 : decide (x7_1 < (l0_0.length : Int)) = false := decide_eq_false c4
    clear c4
    simp only [Option.some.injEq, Prod.mk.injEq] at H
    obtain ⟨rfl, rfl, rfl⟩ := H
    obtain ⟨hcz14_0, hfz14_0⟩ := blk1_ BK220.out
    go_wp2
    go_ret3
    exact ⟨by first | rfl | (simp [errW_none, errW_some] <;> rfl) | (simp [*, errW_none, errW_some] <;> rfl), by repeat (first | (with_reducible first | exact HB.out | apply below_alloc | apply pw_below_drewN | apply below_drew1 | refine below_set ?_ GE220.out) | exact HB.out)⟩

end Go.Proofs.Ytdjkhcmblekeiaa.P
