/- Written by a program of this session, after the kit's print: Lean functions for Go functions, and the proof that the machine comes to their answers. -/
import Derived.Test.YtlncbckpcmojpaaPx0
import Derived.Test.YtlncbckpcmojpaaMka
import Derived.Test.YtlncbckpcmojpaaPxEntrepotlaw11shown
import Derived.Test.YtlncbckpcmojpaaMki
import Derived.Test.YtlncbckpcmojpaaMkg
namespace Go.Proofs.Ytlncbckpcmojpaa.P
open Go.RowKit Go.Proofs.YtlncbckpcmojpaaW.PrintWords Go.Proofs.YtlncbckpcmojpaaW.PrintLast Go.Proofs.YtlncbckpcmojpaaW.PrintMore
attribute [local go_sem] max2_int min2_int max_two min_two max_three min_three max_four min_four   -- for this text's walks alone
set_option linter.unusedVariables false
set_option linter.unusedSimpArgs false

/-! ### entrepotlaw11_FeasTold: function 10 -/
mutual
def entrepotlaw11_FeasTold.j0 : Nat → Bool → ByteArray → Int → Int → Int → Int → Int → List (S32) → List Int → List (List Int) → Option (Bool)
 | 0, _, _, _, _, _, _, _, _, _, _ => none
 | k + 1, x23, x734000, x734001, x734002, x734003, x734004, x734005, x734006, x734007, x735000 => if x23 = true then ((entrepotlaw11_shown.f).bind fun t738 => (some t738)) else ((feas_Check.f x734000 x734001 x734002 x734003 x734004 x734005 x734006 x734007 x735000).bind fun t739 => (entrepotlaw11_FeasTold.l0 k t739 0 x735000))
def entrepotlaw11_FeasTold.l0 : Nat → List (S37) → Int → List (List Int) → Option (Bool)
 | 0, _, _, _ => none
 | k + 1, x5, x6, x735000 => if x6 < (x5.length : Int) then (if 0 ≤ x6 then (entrepotlaw11_FeasTold.l1 k x5 x6 0 0 x735000 ((rd_T37 x5 x6).f0) ((rd_T37 x5 x6).f1) ((rd_T37 x5 x6).f2)) else (none)) else (some true)
def entrepotlaw11_FeasTold.l1 : Nat → List (S37) → Int → Int → Int → List (List Int) → Int → Int → Int → Option (Bool)
 | 0, _, _, _, _, _, _, _, _ => none
 | k + 1, x5, x6, x8, x9, x735000, x744000, x744001, x744002 => if x9 < (x735000.length : Int) then (entrepotlaw11_FeasTold.l2 k x5 x6 x8 x9 0 x735000 x744000 x744001 x744002) else (if x744000 = 6 then (entrepotlaw11_FeasTold.j4 k x5 x6 x8 (x744002 == 0) x735000 x744000 x744001 x744002) else (entrepotlaw11_FeasTold.j4 k x5 x6 x8 false x735000 x744000 x744001 x744002))
def entrepotlaw11_FeasTold.l2 : Nat → List (S37) → Int → Int → Int → Int → List (List Int) → Int → Int → Int → Option (Bool)
 | 0, _, _, _, _, _, _, _, _, _ => none
 | k + 1, x5, x6, x8, x9, x10, x735000, x744000, x744001, x744002 => if 0 ≤ x9 then (if x9 < (x735000.length : Int) then (if x10 < ((rd_L1 x735000 x9).length : Int) then (if 0 ≤ x10 then (if (rd (rd_L1 x735000 x9) x10) = x744002 then (if x744000 ≤ 3 then (if x744000 = 1 then (if x9 = x744001 then (entrepotlaw11_FeasTold.l2 k x5 x6 (wrap64 (x8 + 1)) x9 (wrap64 (x10 + 1)) x735000 x744000 x744001 x744002) else (entrepotlaw11_FeasTold.l2 k x5 x6 x8 x9 (wrap64 (x10 + 1)) x735000 x744000 x744001 x744002)) else (entrepotlaw11_FeasTold.l2 k x5 x6 (wrap64 (x8 + 1)) x9 (wrap64 (x10 + 1)) x735000 x744000 x744001 x744002)) else (if x9 = x744001 then (entrepotlaw11_FeasTold.l2 k x5 x6 (wrap64 (x8 + 1)) x9 (wrap64 (x10 + 1)) x735000 x744000 x744001 x744002) else (entrepotlaw11_FeasTold.l2 k x5 x6 x8 x9 (wrap64 (x10 + 1)) x735000 x744000 x744001 x744002))) else (entrepotlaw11_FeasTold.l2 k x5 x6 x8 x9 (wrap64 (x10 + 1)) x735000 x744000 x744001 x744002)) else (none)) else (entrepotlaw11_FeasTold.l1 k x5 x6 x8 (wrap64 (x9 + 1)) x735000 x744000 x744001 x744002)) else (none)) else (none)
def entrepotlaw11_FeasTold.j4 : Nat → List (S37) → Int → Int → Bool → List (List Int) → Int → Int → Int → Option (Bool)
 | 0, _, _, _, _, _, _, _, _ => none
 | k + 1, x5, x6, x8, x11, x735000, x744000, x744001, x744002 => if x744000 < 1 then (entrepotlaw11_FeasTold.j5 k x5 x6 true x735000 x744000 x744001 x744002) else (if x744000 > 8 then (entrepotlaw11_FeasTold.j5 k x5 x6 true x735000 x744000 x744001 x744002) else (if x744001 < 0 then (entrepotlaw11_FeasTold.j5 k x5 x6 true x735000 x744000 x744001 x744002) else (if x744000 = 3 then (if x8 = 0 then (if x744000 = 2 then (if x8 < 2 then (entrepotlaw11_FeasTold.j5 k x5 x6 true x735000 x744000 x744001 x744002) else (entrepotlaw11_FeasTold.j5 k x5 x6 false x735000 x744000 x744001 x744002)) else (entrepotlaw11_FeasTold.j5 k x5 x6 false x735000 x744000 x744001 x744002)) else (entrepotlaw11_FeasTold.j5 k x5 x6 true x735000 x744000 x744001 x744002)) else (if x744000 = 2 then (if x8 < 2 then (entrepotlaw11_FeasTold.j5 k x5 x6 true x735000 x744000 x744001 x744002) else (if x744000 = 4 then (entrepotlaw11_FeasTold.j5 k x5 x6 false x735000 x744000 x744001 x744002) else (if x11 = true then (entrepotlaw11_FeasTold.j5 k x5 x6 false x735000 x744000 x744001 x744002) else (entrepotlaw11_FeasTold.j5 k x5 x6 (x8 == 0) x735000 x744000 x744001 x744002)))) else (if x744000 = 4 then (entrepotlaw11_FeasTold.j5 k x5 x6 false x735000 x744000 x744001 x744002) else (if x11 = true then (entrepotlaw11_FeasTold.j5 k x5 x6 false x735000 x744000 x744001 x744002) else (entrepotlaw11_FeasTold.j5 k x5 x6 (x8 == 0) x735000 x744000 x744001 x744002)))))))
def entrepotlaw11_FeasTold.j5 : Nat → List (S37) → Int → Bool → List (List Int) → Int → Int → Int → Option (Bool)
 | 0, _, _, _, _, _, _, _ => none
 | k + 1, x5, x6, x140, x735000, x744000, x744001, x744002 => if x140 = true then (some false) else (entrepotlaw11_FeasTold.l3 k x5 x6 0 x735000 x744000 x744001 x744002)
def entrepotlaw11_FeasTold.l3 : Nat → List (S37) → Int → Int → List (List Int) → Int → Int → Int → Option (Bool)
 | 0, _, _, _, _, _, _, _ => none
 | k + 1, x5, x6, x12, x735000, x744000, x744001, x744002 => if x12 < x6 then (if 0 ≤ x12 then (if x12 < (x5.length : Int) then (if ((rd_T37 x5 x12).f0) = x744000 then (if ((rd_T37 x5 x12).f1) = x744001 then (if x744000 = 5 then (some false) else (if x744000 = 6 then (some false) else (if x744000 = 4 then (some false) else (if ((((rd_T37 x5 x12).f0) == 1) != (x744000 == 1)) = true then (some false) else (entrepotlaw11_FeasTold.l3 k x5 x6 (wrap64 (x12 + 1)) x735000 x744000 x744001 x744002))))) else (if ((((rd_T37 x5 x12).f0) == 1) != (x744000 == 1)) = true then (some false) else (entrepotlaw11_FeasTold.l3 k x5 x6 (wrap64 (x12 + 1)) x735000 x744000 x744001 x744002))) else (if ((((rd_T37 x5 x12).f0) == 1) != (x744000 == 1)) = true then (some false) else (entrepotlaw11_FeasTold.l3 k x5 x6 (wrap64 (x12 + 1)) x735000 x744000 x744001 x744002))) else (none)) else (none)) else (entrepotlaw11_FeasTold.l0 k x5 (wrap64 (x6 + 1)) x735000)
end
def entrepotlaw11_FeasTold.f (k : Nat) (a0_0 : ByteArray) (a0_1 : Int) (a0_2 : Int) (a0_3 : Int) (a0_4 : Int) (a0_5 : Int) (l0_6 : List (S32)) (l0_7 : List Int) (l1_0 : List (List Int)) : Option (Bool) := (entrepotlaw11_well.f k a0_0 a0_1 a0_2 a0_3 a0_4 a0_5 l0_6 l0_7).bind fun t735 => (if t735 = true then ((entrepotlaw11_long.f k l1_0).bind fun t736 => (if t736 = true then (entrepotlaw11_FeasTold.j0 k true a0_0 a0_1 a0_2 a0_3 a0_4 a0_5 l0_6 l0_7 l1_0) else ((entrepotlaw11_shown.f).bind fun t737 => (entrepotlaw11_FeasTold.j0 k (!t737) a0_0 a0_1 a0_2 a0_3 a0_4 a0_5 l0_6 l0_7 l1_0)))) else (entrepotlaw11_FeasTold.j0 k true a0_0 a0_1 a0_2 a0_3 a0_4 a0_5 l0_6 l0_7 l1_0))
theorem entrepotlaw11_FeasTold.mono_l : ∀ k, (∀ y0 y1 y2 y3 y4 y5 y6 y7 y8 y9, LeO (entrepotlaw11_FeasTold.j0 k y0 y1 y2 y3 y4 y5 y6 y7 y8 y9) (entrepotlaw11_FeasTold.j0 (k + 1) y0 y1 y2 y3 y4 y5 y6 y7 y8 y9)) ∧ (∀ y0 y1 y2, LeO (entrepotlaw11_FeasTold.l0 k y0 y1 y2) (entrepotlaw11_FeasTold.l0 (k + 1) y0 y1 y2)) ∧ (∀ y0 y1 y2 y3 y4 y5 y6 y7, LeO (entrepotlaw11_FeasTold.l1 k y0 y1 y2 y3 y4 y5 y6 y7) (entrepotlaw11_FeasTold.l1 (k + 1) y0 y1 y2 y3 y4 y5 y6 y7)) ∧ (∀ y0 y1 y2 y3 y4 y5 y6 y7 y8, LeO (entrepotlaw11_FeasTold.l2 k y0 y1 y2 y3 y4 y5 y6 y7 y8) (entrepotlaw11_FeasTold.l2 (k + 1) y0 y1 y2 y3 y4 y5 y6 y7 y8)) ∧ (∀ y0 y1 y2 y3 y4 y5 y6 y7, LeO (entrepotlaw11_FeasTold.j4 k y0 y1 y2 y3 y4 y5 y6 y7) (entrepotlaw11_FeasTold.j4 (k + 1) y0 y1 y2 y3 y4 y5 y6 y7)) ∧ (∀ y0 y1 y2 y3 y4 y5 y6, LeO (entrepotlaw11_FeasTold.j5 k y0 y1 y2 y3 y4 y5 y6) (entrepotlaw11_FeasTold.j5 (k + 1) y0 y1 y2 y3 y4 y5 y6)) ∧ (∀ y0 y1 y2 y3 y4 y5 y6, LeO (entrepotlaw11_FeasTold.l3 k y0 y1 y2 y3 y4 y5 y6) (entrepotlaw11_FeasTold.l3 (k + 1) y0 y1 y2 y3 y4 y5 y6))
 | 0 => ⟨fun _ _ _ _ _ _ _ _ _ _ r h => by simp [entrepotlaw11_FeasTold.j0] at h, fun _ _ _ r h => by simp [entrepotlaw11_FeasTold.l0] at h, fun _ _ _ _ _ _ _ _ r h => by simp [entrepotlaw11_FeasTold.l1] at h, fun _ _ _ _ _ _ _ _ _ r h => by simp [entrepotlaw11_FeasTold.l2] at h, fun _ _ _ _ _ _ _ _ r h => by simp [entrepotlaw11_FeasTold.j4] at h, fun _ _ _ _ _ _ _ r h => by simp [entrepotlaw11_FeasTold.j5] at h, fun _ _ _ _ _ _ _ r h => by simp [entrepotlaw11_FeasTold.l3] at h⟩
 | k + 1 => by
  obtain ⟨ih0, ih1, ih2, ih3, ih4, ih5, ih6⟩ := entrepotlaw11_FeasTold.mono_l k
  refine ⟨?_, ?_, ?_, ?_, ?_, ?_, ?_⟩ <;> intros
  all_goals first | unfold entrepotlaw11_FeasTold.j0 | unfold entrepotlaw11_FeasTold.l0 | unfold entrepotlaw11_FeasTold.l1 | unfold entrepotlaw11_FeasTold.l2 | unfold entrepotlaw11_FeasTold.j4 | unfold entrepotlaw11_FeasTold.j5 | unfold entrepotlaw11_FeasTold.l3
  all_goals repeat' first
  | (with_reducible exact ih0 _ _ _ _ _ _ _ _ _ _)
  | (with_reducible exact ih1 _ _ _)
  | (with_reducible exact ih2 _ _ _ _ _ _ _ _)
  | (with_reducible exact ih3 _ _ _ _ _ _ _ _ _)
  | (with_reducible exact ih4 _ _ _ _ _ _ _ _)
  | (with_reducible exact ih5 _ _ _ _ _ _ _)
  | (with_reducible exact ih6 _ _ _ _ _ _ _)
  | (with_reducible exact entrepotlaw11_long.mono _ _)
  | (with_reducible exact entrepotlaw11_well.mono _ _ _ _ _ _ _ _ _)
  | (with_reducible exact LeO.refl _)
  | (with_reducible exact LeO.none _)
  | (with_reducible refine LeO.ite ?_ ?_)
  | (with_reducible refine LeO.bind ?_ (fun _ => ?_))
  | exact ih0 _ _ _ _ _ _ _ _ _ _
  | exact ih1 _ _ _
  | exact ih2 _ _ _ _ _ _ _ _
  | exact ih3 _ _ _ _ _ _ _ _ _
  | exact ih4 _ _ _ _ _ _ _ _
  | exact ih5 _ _ _ _ _ _ _
  | exact ih6 _ _ _ _ _ _ _
  | exact entrepotlaw11_long.mono _ _
  | exact entrepotlaw11_well.mono _ _ _ _ _ _ _ _ _
  | exact LeO.none _
  | refine LeO.ite ?_ ?_
  | refine LeO.bind ?_ (fun _ => ?_)
theorem entrepotlaw11_FeasTold.mono : ∀ a0 a1 a2 a3 a4 a5 a6 a7 a8 k, LeO (entrepotlaw11_FeasTold.f k a0 a1 a2 a3 a4 a5 a6 a7 a8) (entrepotlaw11_FeasTold.f (k + 1) a0 a1 a2 a3 a4 a5 a6 a7 a8) := by
 intro a0 a1 a2 a3 a4 a5 a6 a7 a8 k
 obtain ⟨ih0, ih1, ih2, ih3, ih4, ih5, ih6⟩ := entrepotlaw11_FeasTold.mono_l k
 unfold entrepotlaw11_FeasTold.f
 repeat' first
   | (with_reducible exact ih0 _ _ _ _ _ _ _ _ _ _)
   | (with_reducible exact ih1 _ _ _)
   | (with_reducible exact ih2 _ _ _ _ _ _ _ _)
   | (with_reducible exact ih3 _ _ _ _ _ _ _ _ _)
   | (with_reducible exact ih4 _ _ _ _ _ _ _ _)
   | (with_reducible exact ih5 _ _ _ _ _ _ _)
   | (with_reducible exact ih6 _ _ _ _ _ _ _)
   | (with_reducible exact entrepotlaw11_long.mono _ _)
   | (with_reducible exact entrepotlaw11_well.mono _ _ _ _ _ _ _ _ _)
   | (with_reducible exact LeO.refl _)
   | (with_reducible exact LeO.none _)
   | (with_reducible refine LeO.ite ?_ ?_)
   | (with_reducible refine LeO.bind ?_ (fun _ => ?_))
   | exact ih0 _ _ _ _ _ _ _ _ _ _
   | exact ih1 _ _ _
   | exact ih2 _ _ _ _ _ _ _ _
   | exact ih3 _ _ _ _ _ _ _ _ _
   | exact ih4 _ _ _ _ _ _ _ _
   | exact ih5 _ _ _ _ _ _ _
   | exact ih6 _ _ _ _ _ _ _
   | exact entrepotlaw11_long.mono _ _
   | exact entrepotlaw11_well.mono _ _ _ _ _ _ _ _ _
   | exact LeO.none _
   | refine LeO.ite ?_ ?_
   | refine LeO.bind ?_ (fun _ => ?_)
set_option maxHeartbeats 8000000 in
set_option maxRecDepth 100000 in
theorem entrepotlaw11_FeasTold.callsT (k : Nat) (a0_0 : ByteArray) (a0_1 : Int) (a0_2 : Int) (a0_3 : Int) (a0_4 : Int) (a0_5 : Int) (A0_6 : Option Addr) (c0_6 : Nat) (l0_6 : List (S32)) (A0_7 : Option Addr) (c0_7 : Nat) (l0_7 : List Int) (A1_0 : Option Addr) (c1_0 : Nat) (l1_0 : List (List Int)) (r : Bool) (w : World) (hr0_6 : Kd.C k32 w A0_6 l0_6.length l0_6) (hc0_6 : l0_6.length ≤ c0_6) (hr0_7 : Kd.C (Kd.int .i64) w A0_7 l0_7.length l0_7) (hc0_7 : l0_7.length ≤ c0_7) (hr1_0 : Kd.C (Kd.slice 3 (Kd.int .i64)) w A1_0 l1_0.length l1_0) (hc1_0 : l1_0.length ≤ c1_0) (h : entrepotlaw11_FeasTold.f k a0_0 a0_1 a0_2 a0_3 a0_4 a0_5 l0_6 l0_7 l1_0 = some r) (hr_ : Aside0 (r = true)) :
  Calls Try.prog 10 #[.agg #[.string a0_0, .int .i64 a0_1, .int .i64 a0_2, .int .i64 a0_3, .int .i64 a0_4, .int .i64 a0_5, .slice A0_6 l0_6.length c0_6, .slice A0_7 l0_7.length c0_7], .agg #[.slice A1_0 l1_0.length c1_0]] w fun e w' => e = .returned (.bool r) ∧ Below w.heap.size w w' := by
 have hu25 := Try.underlying25
 have hu30 := Try.underlying30
 have hu37 := Try.underlying37
 have HR0_6 := Aside0.mk hr0_6
 have HC0_6 := Aside0.mk hc0_6
 clear hr0_6 hc0_6
 have HR0_7 := Aside0.mk hr0_7
 have HC0_7 := Aside0.mk hc0_7
 clear hr0_7 hc0_7
 have HR1_0 := Aside0.mk hr1_0
 have HC1_0 := Aside0.mk hc1_0
 clear hr1_0 hc1_0
 have HB := Aside0.mk (Below.refl w.heap.size w)
 have H : ((entrepotlaw11_well.f k a0_0 a0_1 a0_2 a0_3 a0_4 a0_5 l0_6 l0_7).bind fun t735 => (if t735 = true then ((entrepotlaw11_long.f k l1_0).bind fun t736 => (if t736 = true then (entrepotlaw11_FeasTold.j0 k true a0_0 a0_1 a0_2 a0_3 a0_4 a0_5 l0_6 l0_7 l1_0) else ((entrepotlaw11_shown.f).bind fun t737 => (entrepotlaw11_FeasTold.j0 k (!t737) a0_0 a0_1 a0_2 a0_3 a0_4 a0_5 l0_6 l0_7 l1_0)))) else (entrepotlaw11_FeasTold.j0 k true a0_0 a0_1 a0_2 a0_3 a0_4 a0_5 l0_6 l0_7 l1_0))) = some r := h
 clear h
 have HC3 := Aside0.mk H
 clear H
 go_enter Try.func10, Try.ntmps10
 go_upto_region 1 with (first | ((with_reducible refine gate_dst (N := 2) rfl ?_); refine box_event ?hg (N := 2) ?hd (cs := #[.string a0_0, .int .i64 a0_1, .int .i64 a0_2, .int .i64 a0_3, .int .i64 a0_4, .int .i64 a0_5, .slice A0_6 l0_6.length c0_6, .slice A0_7 l0_7.length c0_7]) (t := 25) ?hr ?_; (case hd => rfl); (case hg => rfl); (case hr => first | (go_simp; done) | (go_simp; rfl)); intro gb733 hg w4 hbox hb; have n0_ := Aside0.mk (below_step (by repeat (first | (with_reducible first | exact HB.out | apply below_alloc | apply pw_below_drewN | apply below_drew1) | exact HB.out)) hb); have n1_ := Aside0.mk (hbox); have n2_ := Aside0.mk ((by rw [hg]; exact (below_size (by repeat (first | (with_reducible first | exact HB.out | apply below_alloc | apply pw_below_drewN | apply below_drew1) | exact HB.out))) : w.heap.size ≤ gb733)); have n3_ := Aside0.mk ((by rw [hg]; exact (below_size (by repeat (first | (with_reducible first | exact HB.out | apply below_alloc | apply pw_below_drewN | apply below_drew1) | exact HB.out))) : w.heap.size ≤ gb733)); clear HB; have HB := n0_; have BK733 := n1_; have GW733 := n2_; have GE733 := n3_; clear n0_ n1_ n2_ n3_; clear hb hbox hg) | ((with_reducible refine gate_dst (N := 3) rfl ?_); refine box_event ?hg (N := 3) ?hd (cs := #[.slice A1_0 l1_0.length c1_0]) (t := 30) ?hr ?_; (case hd => rfl); (case hg => rfl); (case hr => first | (go_simp; done) | (go_simp; rfl)); intro gb734 hg w5 hbox hb; have n0_ := Aside0.mk (blk_below (g := gb733) (o := .cells #[.string a0_0, .int .i64 a0_1, .int .i64 a0_2, .int .i64 a0_3, .int .i64 a0_4, .int .i64 a0_5, .slice A0_6 l0_6.length c0_6, .slice A0_7 l0_7.length c0_7] 25 (0, 0)) (by (with_reducible repeat (first | refine blk_drewN ?_ _ | refine blk_drew ?_ | refine blk_alloc ?_ _)); exact BK733.out) hb); have n1_ := Aside0.mk (below_step (by repeat (first | (with_reducible first | exact HB.out | apply below_alloc | apply pw_below_drewN | apply below_drew1 | refine below_set ?_ GE733.out) | exact HB.out)) hb); have n2_ := Aside0.mk (hbox); have n3_ := Aside0.mk ((by rw [hg]; exact (below_size (by repeat (first | (with_reducible first | exact HB.out | apply below_alloc | apply pw_below_drewN | apply below_drew1 | refine below_set ?_ GE733.out) | exact HB.out))) : w.heap.size ≤ gb734)); have n4_ := Aside0.mk ((by rw [hg]; exact (below_size (by repeat (first | (with_reducible first | exact HB.out | apply below_alloc | apply pw_below_drewN | apply below_drew1 | refine below_set ?_ GE733.out) | exact HB.out))) : w.heap.size ≤ gb734)); have n5_ := Aside0.mk ((by rw [hg]; exact Nat.ne_of_lt (blk_lt (g := gb733) (o := .cells #[.string a0_0, .int .i64 a0_1, .int .i64 a0_2, .int .i64 a0_3, .int .i64 a0_4, .int .i64 a0_5, .slice A0_6 l0_6.length c0_6, .slice A0_7 l0_7.length c0_7] 25 (0, 0)) (by (with_reducible repeat (first | refine blk_drewN ?_ _ | refine blk_drew ?_ | refine blk_alloc ?_ _)); exact BK733.out)) : gb733 ≠ gb734)); have n6_ := Aside0.mk ((by rw [hg]; exact Nat.ne_of_gt (blk_lt (g := gb733) (o := .cells #[.string a0_0, .int .i64 a0_1, .int .i64 a0_2, .int .i64 a0_3, .int .i64 a0_4, .int .i64 a0_5, .slice A0_6 l0_6.length c0_6, .slice A0_7 l0_7.length c0_7] 25 (0, 0)) (by (with_reducible repeat (first | refine blk_drewN ?_ _ | refine blk_drew ?_ | refine blk_alloc ?_ _)); exact BK733.out)) : gb734 ≠ gb733)); clear BK733; clear HB; have BK733 := n0_; have HB := n1_; have BK734 := n2_; have GW734 := n3_; have GE734 := n4_; have NB733_734 := n5_; have NB734_733 := n6_; clear n0_ n1_ n2_ n3_ n4_ n5_ n6_; clear hb hbox hg))
 repeat (go_quiet (first | ((with_reducible refine gate_dst (N := 2) rfl ?_); refine box_event ?hg (N := 2) ?hd (cs := #[.string a0_0, .int .i64 a0_1, .int .i64 a0_2, .int .i64 a0_3, .int .i64 a0_4, .int .i64 a0_5, .slice A0_6 l0_6.length c0_6, .slice A0_7 l0_7.length c0_7]) (t := 25) ?hr ?_; (case hd => rfl); (case hg => rfl); (case hr => first | (go_simp; done) | (go_simp; rfl)); intro gb733 hg w4 hbox hb; have n0_ := Aside0.mk (below_step (by repeat (first | (with_reducible first | exact HB.out | apply below_alloc | apply pw_below_drewN | apply below_drew1) | exact HB.out)) hb); have n1_ := Aside0.mk (hbox); have n2_ := Aside0.mk ((by rw [hg]; exact (below_size (by repeat (first | (with_reducible first | exact HB.out | apply below_alloc | apply pw_below_drewN | apply below_drew1) | exact HB.out))) : w.heap.size ≤ gb733)); have n3_ := Aside0.mk ((by rw [hg]; exact (below_size (by repeat (first | (with_reducible first | exact HB.out | apply below_alloc | apply pw_below_drewN | apply below_drew1) | exact HB.out))) : w.heap.size ≤ gb733)); clear HB; have HB := n0_; have BK733 := n1_; have GW733 := n2_; have GE733 := n3_; clear n0_ n1_ n2_ n3_; clear hb hbox hg) | ((with_reducible refine gate_dst (N := 3) rfl ?_); refine box_event ?hg (N := 3) ?hd (cs := #[.slice A1_0 l1_0.length c1_0]) (t := 30) ?hr ?_; (case hd => rfl); (case hg => rfl); (case hr => first | (go_simp; done) | (go_simp; rfl)); intro gb734 hg w5 hbox hb; have n0_ := Aside0.mk (blk_below (g := gb733) (o := .cells #[.string a0_0, .int .i64 a0_1, .int .i64 a0_2, .int .i64 a0_3, .int .i64 a0_4, .int .i64 a0_5, .slice A0_6 l0_6.length c0_6, .slice A0_7 l0_7.length c0_7] 25 (0, 0)) (by (with_reducible repeat (first | refine blk_drewN ?_ _ | refine blk_drew ?_ | refine blk_alloc ?_ _)); exact BK733.out) hb); have n1_ := Aside0.mk (below_step (by repeat (first | (with_reducible first | exact HB.out | apply below_alloc | apply pw_below_drewN | apply below_drew1 | refine below_set ?_ GE733.out) | exact HB.out)) hb); have n2_ := Aside0.mk (hbox); have n3_ := Aside0.mk ((by rw [hg]; exact (below_size (by repeat (first | (with_reducible first | exact HB.out | apply below_alloc | apply pw_below_drewN | apply below_drew1 | refine below_set ?_ GE733.out) | exact HB.out))) : w.heap.size ≤ gb734)); have n4_ := Aside0.mk ((by rw [hg]; exact (below_size (by repeat (first | (with_reducible first | exact HB.out | apply below_alloc | apply pw_below_drewN | apply below_drew1 | refine below_set ?_ GE733.out) | exact HB.out))) : w.heap.size ≤ gb734)); have n5_ := Aside0.mk ((by rw [hg]; exact Nat.ne_of_lt (blk_lt (g := gb733) (o := .cells #[.string a0_0, .int .i64 a0_1, .int .i64 a0_2, .int .i64 a0_3, .int .i64 a0_4, .int .i64 a0_5, .slice A0_6 l0_6.length c0_6, .slice A0_7 l0_7.length c0_7] 25 (0, 0)) (by (with_reducible repeat (first | refine blk_drewN ?_ _ | refine blk_drew ?_ | refine blk_alloc ?_ _)); exact BK733.out)) : gb733 ≠ gb734)); have n6_ := Aside0.mk ((by rw [hg]; exact Nat.ne_of_gt (blk_lt (g := gb733) (o := .cells #[.string a0_0, .int .i64 a0_1, .int .i64 a0_2, .int .i64 a0_3, .int .i64 a0_4, .int .i64 a0_5, .slice A0_6 l0_6.length c0_6, .slice A0_7 l0_7.length c0_7] 25 (0, 0)) (by (with_reducible repeat (first | refine blk_drewN ?_ _ | refine blk_drew ?_ | refine blk_alloc ?_ _)); exact BK733.out)) : gb734 ≠ gb733)); clear BK733; clear HB; have BK733 := n0_; have HB := n1_; have BK734 := n2_; have GW734 := n3_; have GE734 := n4_; have NB733_734 := n5_; have NB734_733 := n6_; clear n0_ n1_ n2_ n3_ n4_ n5_ n6_; clear hb hbox hg)); go_upto_region 1 with (first | ((with_reducible refine gate_dst (N := 2) rfl ?_); refine box_event ?hg (N := 2) ?hd (cs := #[.string a0_0, .int .i64 a0_1, .int .i64 a0_2, .int .i64 a0_3, .int .i64 a0_4, .int .i64 a0_5, .slice A0_6 l0_6.length c0_6, .slice A0_7 l0_7.length c0_7]) (t := 25) ?hr ?_; (case hd => rfl); (case hg => rfl); (case hr => first | (go_simp; done) | (go_simp; rfl)); intro gb733 hg w4 hbox hb; have n0_ := Aside0.mk (below_step (by repeat (first | (with_reducible first | exact HB.out | apply below_alloc | apply pw_below_drewN | apply below_drew1) | exact HB.out)) hb); have n1_ := Aside0.mk (hbox); have n2_ := Aside0.mk ((by rw [hg]; exact (below_size (by repeat (first | (with_reducible first | exact HB.out | apply below_alloc | apply pw_below_drewN | apply below_drew1) | exact HB.out))) : w.heap.size ≤ gb733)); have n3_ := Aside0.mk ((by rw [hg]; exact (below_size (by repeat (first | (with_reducible first | exact HB.out | apply below_alloc | apply pw_below_drewN | apply below_drew1) | exact HB.out))) : w.heap.size ≤ gb733)); clear HB; have HB := n0_; have BK733 := n1_; have GW733 := n2_; have GE733 := n3_; clear n0_ n1_ n2_ n3_; clear hb hbox hg) | ((with_reducible refine gate_dst (N := 3) rfl ?_); refine box_event ?hg (N := 3) ?hd (cs := #[.slice A1_0 l1_0.length c1_0]) (t := 30) ?hr ?_; (case hd => rfl); (case hg => rfl); (case hr => first | (go_simp; done) | (go_simp; rfl)); intro gb734 hg w5 hbox hb; have n0_ := Aside0.mk (blk_below (g := gb733) (o := .cells #[.string a0_0, .int .i64 a0_1, .int .i64 a0_2, .int .i64 a0_3, .int .i64 a0_4, .int .i64 a0_5, .slice A0_6 l0_6.length c0_6, .slice A0_7 l0_7.length c0_7] 25 (0, 0)) (by (with_reducible repeat (first | refine blk_drewN ?_ _ | refine blk_drew ?_ | refine blk_alloc ?_ _)); exact BK733.out) hb); have n1_ := Aside0.mk (below_step (by repeat (first | (with_reducible first | exact HB.out | apply below_alloc | apply pw_below_drewN | apply below_drew1 | refine below_set ?_ GE733.out) | exact HB.out)) hb); have n2_ := Aside0.mk (hbox); have n3_ := Aside0.mk ((by rw [hg]; exact (below_size (by repeat (first | (with_reducible first | exact HB.out | apply below_alloc | apply pw_below_drewN | apply below_drew1 | refine below_set ?_ GE733.out) | exact HB.out))) : w.heap.size ≤ gb734)); have n4_ := Aside0.mk ((by rw [hg]; exact (below_size (by repeat (first | (with_reducible first | exact HB.out | apply below_alloc | apply pw_below_drewN | apply below_drew1 | refine below_set ?_ GE733.out) | exact HB.out))) : w.heap.size ≤ gb734)); have n5_ := Aside0.mk ((by rw [hg]; exact Nat.ne_of_lt (blk_lt (g := gb733) (o := .cells #[.string a0_0, .int .i64 a0_1, .int .i64 a0_2, .int .i64 a0_3, .int .i64 a0_4, .int .i64 a0_5, .slice A0_6 l0_6.length c0_6, .slice A0_7 l0_7.length c0_7] 25 (0, 0)) (by (with_reducible repeat (first | refine blk_drewN ?_ _ | refine blk_drew ?_ | refine blk_alloc ?_ _)); exact BK733.out)) : gb733 ≠ gb734)); have n6_ := Aside0.mk ((by rw [hg]; exact Nat.ne_of_gt (blk_lt (g := gb733) (o := .cells #[.string a0_0, .int .i64 a0_1, .int .i64 a0_2, .int .i64 a0_3, .int .i64 a0_4, .int .i64 a0_5, .slice A0_6 l0_6.length c0_6, .slice A0_7 l0_7.length c0_7] 25 (0, 0)) (by (with_reducible repeat (first | refine blk_drewN ?_ _ | refine blk_drew ?_ | refine blk_alloc ?_ _)); exact BK733.out)) : gb734 ≠ gb733)); clear BK733; clear HB; have BK733 := n0_; have HB := n1_; have BK734 := n2_; have GW734 := n3_; have GE734 := n4_; have NB733_734 := n5_; have NB734_733 := n6_; clear n0_ n1_ n2_ n3_ n4_ n5_ n6_; clear hb hbox hg)))
 (try simp only [Act.put, List.setIfInBounds_toArray, List.set_cons_zero, List.set_cons_succ])
 go_cut [23] (fun v23 wc => ∃ (kq : Nat) (x23_2 : Bool), v23 = .bool x23_2 ∧ Aside0 (entrepotlaw11_FeasTold.j0 kq x23_2 a0_0 a0_1 a0_2 a0_3 a0_4 a0_5 l0_6 l0_7 l1_0 = some r) ∧ Aside0 (kq ≤ k) ∧ Aside0 (wc.heap[gb733]? = some (.cells #[.string a0_0, .int .i64 a0_1, .int .i64 a0_2, .int .i64 a0_3, .int .i64 a0_4, .int .i64 a0_5, (.slice A0_6 l0_6.length c0_6), (.slice A0_7 l0_7.length c0_7)] 25 (0, 0))) ∧ Aside0 (wc.heap[gb734]? = some (.cells #[(.slice A1_0 l1_0.length c1_0)] 30 (0, 0))) ∧ Aside0 (Below w.heap.size w wc))
 case first => as_aux_lemma =>
  have H := HC3.out
  clear HC3
  replace H := Option.bind_eq_some_iff.mp H
  obtain ⟨t735, A60, H⟩ := H
  replace H : (if t735 = true then ((entrepotlaw11_long.f k l1_0).bind fun t736 => (if t736 = true then (entrepotlaw11_FeasTold.j0 k true a0_0 a0_1 a0_2 a0_3 a0_4 a0_5 l0_6 l0_7 l1_0) else ((entrepotlaw11_shown.f).bind fun t737 => (entrepotlaw11_FeasTold.j0 k (!t737) a0_0 a0_1 a0_2 a0_3 a0_4 a0_5 l0_6 l0_7 l1_0)))) else (entrepotlaw11_FeasTold.j0 k true a0_0 a0_1 a0_2 a0_3 a0_4 a0_5 l0_6 l0_7 l1_0)) = some r := H
  have A6 := Aside0.mk A60
  clear A60
  by_cases c7 : t735 = true
  ·subst c7
   have H1 : ((entrepotlaw11_long.f k l1_0).bind fun t736 => (if t736 = true then (entrepotlaw11_FeasTold.j0 k true a0_0 a0_1 a0_2 a0_3 a0_4 a0_5 l0_6 l0_7 l1_0) else ((entrepotlaw11_shown.f).bind fun t737 => (entrepotlaw11_FeasTold.j0 k (!t737) a0_0 a0_1 a0_2 a0_3 a0_4 a0_5 l0_6 l0_7 l1_0)))) = some r := by rw [if_pos rfl] at H; exact H
   clear H
   have H := H1
   clear H1
   replace H := Option.bind_eq_some_iff.mp H
   obtain ⟨t736, A80, H⟩ := H
   replace H : (if t736 = true then (entrepotlaw11_FeasTold.j0 k true a0_0 a0_1 a0_2 a0_3 a0_4 a0_5 l0_6 l0_7 l1_0) else ((entrepotlaw11_shown.f).bind fun t737 => (entrepotlaw11_FeasTold.j0 k (!t737) a0_0 a0_1 a0_2 a0_3 a0_4 a0_5 l0_6 l0_7 l1_0))) = some r := H
   have A8 := Aside0.mk A80
   clear A80
   by_cases c9 : t736 = true
   ·subst c9
    have H1 : (entrepotlaw11_FeasTold.j0 k true a0_0 a0_1 a0_2 a0_3 a0_4 a0_5 l0_6 l0_7 l1_0) = some r := by rw [if_pos rfl] at H; exact H
    clear H
    have H := H1
    clear H1
    have H' := Aside0.mk H
    clear H
    have hnb10 := NB733_734.out
    have hnc10 := NB734_733.out
    obtain ⟨hcz11_0, hcz11_1, hcz11_2, hcz11_3, hcz11_4, hcz11_5, hcz11_6, hcz11_7, hfz11_0, hfz11_1, hfz11_2, hfz11_3, hfz11_4, hfz11_5, hfz11_6, hfz11_7⟩ := blk8_ BK733.out
    go_wp2_with (first | (go_at_call 11; (with_reducible refine (entrepotlaw11_well.calls k a0_0 a0_1 a0_2 a0_3 a0_4 a0_5 _ _ l0_6 _ _ l0_7 true _ ?side1 ?side2 ?side3 ?side4 A6.out).mono ?_); (case side1 => repeat (first | exact (Kd.C_below HR0_6.out HB.out) | (with_reducible refine Kd.C_alloc ?_ _) | (with_reducible refine Kd.C_drewN ?_ _) | (with_reducible refine Kd.C_drew ?_))); (case side2 => exact HC0_6.out); (case side3 => repeat (first | exact (Kd.C_below HR0_7.out HB.out) | (with_reducible refine Kd.C_alloc ?_ _) | (with_reducible refine Kd.C_drewN ?_ _) | (with_reducible refine Kd.C_drew ?_))); (case side4 => exact HC0_7.out); rintro e w12 ⟨rfl, hb⟩; have n0_ := Aside0.mk (blk_below (g := gb733) (o := .cells #[.string a0_0, .int .i64 a0_1, .int .i64 a0_2, .int .i64 a0_3, .int .i64 a0_4, .int .i64 a0_5, .slice A0_6 l0_6.length c0_6, .slice A0_7 l0_7.length c0_7] 25 (0, 0)) (by (with_reducible repeat (first | refine blk_drewN ?_ _ | refine blk_drew ?_ | refine blk_alloc ?_ _)); exact BK733.out) hb); have n1_ := Aside0.mk (blk_below (g := gb734) (o := .cells #[.slice A1_0 l1_0.length c1_0] 30 (0, 0)) (by (with_reducible repeat (first | refine blk_drewN ?_ _ | refine blk_drew ?_ | refine blk_alloc ?_ _)); exact BK734.out) hb); have n2_ := Aside0.mk (below_step (by repeat (first | (with_reducible first | exact HB.out | apply below_alloc | apply pw_below_drewN | apply below_drew1 | refine below_set ?_ GE733.out | refine below_set ?_ GE734.out) | exact HB.out)) hb); clear BK733; clear BK734; clear HB; have BK733 := n0_; have BK734 := n1_; have HB := n2_; clear n0_ n1_ n2_; (try clear hb); (try clear hb2); (try clear hk); (try clear hi); obtain ⟨hcz13_0, hfz13_0⟩ := blk1_ BK734.out) | (go_at_call 15; (with_reducible refine (entrepotlaw11_long.calls k _ _ l1_0 true _ ?side1 ?side2 A8.out).mono ?_); (case side1 => repeat (first | exact (Kd.C_below HR1_0.out HB.out) | (with_reducible refine Kd.C_alloc ?_ _) | (with_reducible refine Kd.C_drewN ?_ _) | (with_reducible refine Kd.C_drew ?_))); (case side2 => exact HC1_0.out); rintro e w14 ⟨rfl, hb⟩; have n0_ := Aside0.mk (blk_below (g := gb733) (o := .cells #[.string a0_0, .int .i64 a0_1, .int .i64 a0_2, .int .i64 a0_3, .int .i64 a0_4, .int .i64 a0_5, .slice A0_6 l0_6.length c0_6, .slice A0_7 l0_7.length c0_7] 25 (0, 0)) (by (with_reducible repeat (first | refine blk_drewN ?_ _ | refine blk_drew ?_ | refine blk_alloc ?_ _)); exact BK733.out) hb); have n1_ := Aside0.mk (blk_below (g := gb734) (o := .cells #[.slice A1_0 l1_0.length c1_0] 30 (0, 0)) (by (with_reducible repeat (first | refine blk_drewN ?_ _ | refine blk_drew ?_ | refine blk_alloc ?_ _)); exact BK734.out) hb); have n2_ := Aside0.mk (below_step (by repeat (first | (with_reducible first | exact HB.out | apply below_alloc | apply pw_below_drewN | apply below_drew1 | refine below_set ?_ GE733.out | refine below_set ?_ GE734.out) | exact HB.out)) hb); clear BK733; clear BK734; clear HB; have BK733 := n0_; have BK734 := n1_; have HB := n2_; clear n0_ n1_ n2_; (try clear hb); (try clear hb2); (try clear hk); (try clear hi)))
    repeat (go_quiet (first | (go_at_call 11; (with_reducible refine (entrepotlaw11_well.calls k a0_0 a0_1 a0_2 a0_3 a0_4 a0_5 _ _ l0_6 _ _ l0_7 true _ ?side1 ?side2 ?side3 ?side4 A6.out).mono ?_); (case side1 => repeat (first | exact (Kd.C_below HR0_6.out HB.out) | (with_reducible refine Kd.C_alloc ?_ _) | (with_reducible refine Kd.C_drewN ?_ _) | (with_reducible refine Kd.C_drew ?_))); (case side2 => exact HC0_6.out); (case side3 => repeat (first | exact (Kd.C_below HR0_7.out HB.out) | (with_reducible refine Kd.C_alloc ?_ _) | (with_reducible refine Kd.C_drewN ?_ _) | (with_reducible refine Kd.C_drew ?_))); (case side4 => exact HC0_7.out); rintro e w12 ⟨rfl, hb⟩; have n0_ := Aside0.mk (blk_below (g := gb733) (o := .cells #[.string a0_0, .int .i64 a0_1, .int .i64 a0_2, .int .i64 a0_3, .int .i64 a0_4, .int .i64 a0_5, .slice A0_6 l0_6.length c0_6, .slice A0_7 l0_7.length c0_7] 25 (0, 0)) (by (with_reducible repeat (first | refine blk_drewN ?_ _ | refine blk_drew ?_ | refine blk_alloc ?_ _)); exact BK733.out) hb); have n1_ := Aside0.mk (blk_below (g := gb734) (o := .cells #[.slice A1_0 l1_0.length c1_0] 30 (0, 0)) (by (with_reducible repeat (first | refine blk_drewN ?_ _ | refine blk_drew ?_ | refine blk_alloc ?_ _)); exact BK734.out) hb); have n2_ := Aside0.mk (below_step (by repeat (first | (with_reducible first | exact HB.out | apply below_alloc | apply pw_below_drewN | apply below_drew1 | refine below_set ?_ GE733.out | refine below_set ?_ GE734.out) | exact HB.out)) hb); clear BK733; clear BK734; clear HB; have BK733 := n0_; have BK734 := n1_; have HB := n2_; clear n0_ n1_ n2_; (try clear hb); (try clear hb2); (try clear hk); (try clear hi); obtain ⟨hcz13_0, hfz13_0⟩ := blk1_ BK734.out) | (go_at_call 15; (with_reducible refine (entrepotlaw11_long.calls k _ _ l1_0 true _ ?side1 ?side2 A8.out).mono ?_); (case side1 => repeat (first | exact (Kd.C_below HR1_0.out HB.out) | (with_reducible refine Kd.C_alloc ?_ _) | (with_reducible refine Kd.C_drewN ?_ _) | (with_reducible refine Kd.C_drew ?_))); (case side2 => exact HC1_0.out); rintro e w14 ⟨rfl, hb⟩; have n0_ := Aside0.mk (blk_below (g := gb733) (o := .cells #[.string a0_0, .int .i64 a0_1, .int .i64 a0_2, .int .i64 a0_3, .int .i64 a0_4, .int .i64 a0_5, .slice A0_6 l0_6.length c0_6, .slice A0_7 l0_7.length c0_7] 25 (0, 0)) (by (with_reducible repeat (first | refine blk_drewN ?_ _ | refine blk_drew ?_ | refine blk_alloc ?_ _)); exact BK733.out) hb); have n1_ := Aside0.mk (blk_below (g := gb734) (o := .cells #[.slice A1_0 l1_0.length c1_0] 30 (0, 0)) (by (with_reducible repeat (first | refine blk_drewN ?_ _ | refine blk_drew ?_ | refine blk_alloc ?_ _)); exact BK734.out) hb); have n2_ := Aside0.mk (below_step (by repeat (first | (with_reducible first | exact HB.out | apply below_alloc | apply pw_below_drewN | apply below_drew1 | refine below_set ?_ GE733.out | refine below_set ?_ GE734.out) | exact HB.out)) hb); clear BK733; clear BK734; clear HB; have BK733 := n0_; have BK734 := n1_; have HB := n2_; clear n0_ n1_ n2_; (try clear hb); (try clear hb2); (try clear hk); (try clear hi))); try go_wp2_with (first | (go_at_call 11; (with_reducible refine (entrepotlaw11_well.calls k a0_0 a0_1 a0_2 a0_3 a0_4 a0_5 _ _ l0_6 _ _ l0_7 true _ ?side1 ?side2 ?side3 ?side4 A6.out).mono ?_); (case side1 => repeat (first | exact (Kd.C_below HR0_6.out HB.out) | (with_reducible refine Kd.C_alloc ?_ _) | (with_reducible refine Kd.C_drewN ?_ _) | (with_reducible refine Kd.C_drew ?_))); (case side2 => exact HC0_6.out); (case side3 => repeat (first | exact (Kd.C_below HR0_7.out HB.out) | (with_reducible refine Kd.C_alloc ?_ _) | (with_reducible refine Kd.C_drewN ?_ _) | (with_reducible refine Kd.C_drew ?_))); (case side4 => exact HC0_7.out); rintro e w12 ⟨rfl, hb⟩; have n0_ := Aside0.mk (blk_below (g := gb733) (o := .cells #[.string a0_0, .int .i64 a0_1, .int .i64 a0_2, .int .i64 a0_3, .int .i64 a0_4, .int .i64 a0_5, .slice A0_6 l0_6.length c0_6, .slice A0_7 l0_7.length c0_7] 25 (0, 0)) (by (with_reducible repeat (first | refine blk_drewN ?_ _ | refine blk_drew ?_ | refine blk_alloc ?_ _)); exact BK733.out) hb); have n1_ := Aside0.mk (blk_below (g := gb734) (o := .cells #[.slice A1_0 l1_0.length c1_0] 30 (0, 0)) (by (with_reducible repeat (first | refine blk_drewN ?_ _ | refine blk_drew ?_ | refine blk_alloc ?_ _)); exact BK734.out) hb); have n2_ := Aside0.mk (below_step (by repeat (first | (with_reducible first | exact HB.out | apply below_alloc | apply pw_below_drewN | apply below_drew1 | refine below_set ?_ GE733.out | refine below_set ?_ GE734.out) | exact HB.out)) hb); clear BK733; clear BK734; clear HB; have BK733 := n0_; have BK734 := n1_; have HB := n2_; clear n0_ n1_ n2_; (try clear hb); (try clear hb2); (try clear hk); (try clear hi); obtain ⟨hcz13_0, hfz13_0⟩ := blk1_ BK734.out) | (go_at_call 15; (with_reducible refine (entrepotlaw11_long.calls k _ _ l1_0 true _ ?side1 ?side2 A8.out).mono ?_); (case side1 => repeat (first | exact (Kd.C_below HR1_0.out HB.out) | (with_reducible refine Kd.C_alloc ?_ _) | (with_reducible refine Kd.C_drewN ?_ _) | (with_reducible refine Kd.C_drew ?_))); (case side2 => exact HC1_0.out); rintro e w14 ⟨rfl, hb⟩; have n0_ := Aside0.mk (blk_below (g := gb733) (o := .cells #[.string a0_0, .int .i64 a0_1, .int .i64 a0_2, .int .i64 a0_3, .int .i64 a0_4, .int .i64 a0_5, .slice A0_6 l0_6.length c0_6, .slice A0_7 l0_7.length c0_7] 25 (0, 0)) (by (with_reducible repeat (first | refine blk_drewN ?_ _ | refine blk_drew ?_ | refine blk_alloc ?_ _)); exact BK733.out) hb); have n1_ := Aside0.mk (blk_below (g := gb734) (o := .cells #[.slice A1_0 l1_0.length c1_0] 30 (0, 0)) (by (with_reducible repeat (first | refine blk_drewN ?_ _ | refine blk_drew ?_ | refine blk_alloc ?_ _)); exact BK734.out) hb); have n2_ := Aside0.mk (below_step (by repeat (first | (with_reducible first | exact HB.out | apply below_alloc | apply pw_below_drewN | apply below_drew1 | refine below_set ?_ GE733.out | refine below_set ?_ GE734.out) | exact HB.out)) hb); clear BK733; clear BK734; clear HB; have BK733 := n0_; have BK734 := n1_; have HB := n2_; clear n0_ n1_ n2_; (try clear hb); (try clear hb2); (try clear hk); (try clear hi))))
    go_meet
    case rel => exact ⟨_, (true), (by first | rfl | (simp; done) | (simp [*]; done)), H', ⟨by first | omega | exact Nat.le_refl _⟩, ⟨by (with_reducible repeat (first | refine blk_drewN ?_ _ | refine blk_drew ?_ | refine blk_alloc ?_ _)); exact BK733.out⟩, ⟨by (with_reducible repeat (first | refine blk_drewN ?_ _ | refine blk_drew ?_ | refine blk_alloc ?_ _)); exact BK734.out⟩, ⟨by repeat (first | (with_reducible first | exact HB.out | apply below_alloc | apply pw_below_drewN | apply below_drew1 | refine below_set ?_ GE733.out | refine below_set ?_ GE734.out) | exact HB.out)⟩⟩
   ·replace c9 := Bool.eq_false_iff.mpr c9
    subst c9
    have H1 : ((entrepotlaw11_shown.f).bind fun t737 => (entrepotlaw11_FeasTold.j0 k (!t737) a0_0 a0_1 a0_2 a0_3 a0_4 a0_5 l0_6 l0_7 l1_0)) = some r := by rw [if_neg (show ¬ (false = true) by decide)] at H; exact H
    clear H
    have H := H1
    clear H1
    replace H := Option.bind_eq_some_iff.mp H
    obtain ⟨t737, A150, H⟩ := H
    replace H : (entrepotlaw11_FeasTold.j0 k (!t737) a0_0 a0_1 a0_2 a0_3 a0_4 a0_5 l0_6 l0_7 l1_0) = some r := H
    have A15 := Aside0.mk A150
    clear A150
    have H' := Aside0.mk H
    clear H
    have hnb16 := NB733_734.out
    have hnc16 := NB734_733.out
    obtain ⟨hcz17_0, hcz17_1, hcz17_2, hcz17_3, hcz17_4, hcz17_5, hcz17_6, hcz17_7, hfz17_0, hfz17_1, hfz17_2, hfz17_3, hfz17_4, hfz17_5, hfz17_6, hfz17_7⟩ := blk8_ BK733.out
    go_wp2_with (first | (go_at_call 11; (with_reducible refine (entrepotlaw11_well.calls k a0_0 a0_1 a0_2 a0_3 a0_4 a0_5 _ _ l0_6 _ _ l0_7 true _ ?side1 ?side2 ?side3 ?side4 A6.out).mono ?_); (case side1 => repeat (first | exact (Kd.C_below HR0_6.out HB.out) | (with_reducible refine Kd.C_alloc ?_ _) | (with_reducible refine Kd.C_drewN ?_ _) | (with_reducible refine Kd.C_drew ?_))); (case side2 => exact HC0_6.out); (case side3 => repeat (first | exact (Kd.C_below HR0_7.out HB.out) | (with_reducible refine Kd.C_alloc ?_ _) | (with_reducible refine Kd.C_drewN ?_ _) | (with_reducible refine Kd.C_drew ?_))); (case side4 => exact HC0_7.out); rintro e w18 ⟨rfl, hb⟩; have n0_ := Aside0.mk (blk_below (g := gb733) (o := .cells #[.string a0_0, .int .i64 a0_1, .int .i64 a0_2, .int .i64 a0_3, .int .i64 a0_4, .int .i64 a0_5, .slice A0_6 l0_6.length c0_6, .slice A0_7 l0_7.length c0_7] 25 (0, 0)) (by (with_reducible repeat (first | refine blk_drewN ?_ _ | refine blk_drew ?_ | refine blk_alloc ?_ _)); exact BK733.out) hb); have n1_ := Aside0.mk (blk_below (g := gb734) (o := .cells #[.slice A1_0 l1_0.length c1_0] 30 (0, 0)) (by (with_reducible repeat (first | refine blk_drewN ?_ _ | refine blk_drew ?_ | refine blk_alloc ?_ _)); exact BK734.out) hb); have n2_ := Aside0.mk (below_step (by repeat (first | (with_reducible first | exact HB.out | apply below_alloc | apply pw_below_drewN | apply below_drew1 | refine below_set ?_ GE733.out | refine below_set ?_ GE734.out) | exact HB.out)) hb); clear BK733; clear BK734; clear HB; have BK733 := n0_; have BK734 := n1_; have HB := n2_; clear n0_ n1_ n2_; (try clear hb); (try clear hb2); (try clear hk); (try clear hi); obtain ⟨hcz19_0, hfz19_0⟩ := blk1_ BK734.out) | (go_at_call 15; (with_reducible refine (entrepotlaw11_long.calls k _ _ l1_0 false _ ?side1 ?side2 A8.out).mono ?_); (case side1 => repeat (first | exact (Kd.C_below HR1_0.out HB.out) | (with_reducible refine Kd.C_alloc ?_ _) | (with_reducible refine Kd.C_drewN ?_ _) | (with_reducible refine Kd.C_drew ?_))); (case side2 => exact HC1_0.out); rintro e w20 ⟨rfl, hb⟩; have n0_ := Aside0.mk (blk_below (g := gb733) (o := .cells #[.string a0_0, .int .i64 a0_1, .int .i64 a0_2, .int .i64 a0_3, .int .i64 a0_4, .int .i64 a0_5, .slice A0_6 l0_6.length c0_6, .slice A0_7 l0_7.length c0_7] 25 (0, 0)) (by (with_reducible repeat (first | refine blk_drewN ?_ _ | refine blk_drew ?_ | refine blk_alloc ?_ _)); exact BK733.out) hb); have n1_ := Aside0.mk (blk_below (g := gb734) (o := .cells #[.slice A1_0 l1_0.length c1_0] 30 (0, 0)) (by (with_reducible repeat (first | refine blk_drewN ?_ _ | refine blk_drew ?_ | refine blk_alloc ?_ _)); exact BK734.out) hb); have n2_ := Aside0.mk (below_step (by repeat (first | (with_reducible first | exact HB.out | apply below_alloc | apply pw_below_drewN | apply below_drew1 | refine below_set ?_ GE733.out | refine below_set ?_ GE734.out) | exact HB.out)) hb); clear BK733; clear BK734; clear HB; have BK733 := n0_; have BK734 := n1_; have HB := n2_; clear n0_ n1_ n2_; (try clear hb); (try clear hb2); (try clear hk); (try clear hi)) | (go_at_call 12; (with_reducible refine (entrepotlaw11_shown.calls  t737 _ A15.out).mono ?_); rintro e w21 ⟨rfl, hb⟩; have n0_ := Aside0.mk (blk_below (g := gb733) (o := .cells #[.string a0_0, .int .i64 a0_1, .int .i64 a0_2, .int .i64 a0_3, .int .i64 a0_4, .int .i64 a0_5, .slice A0_6 l0_6.length c0_6, .slice A0_7 l0_7.length c0_7] 25 (0, 0)) (by (with_reducible repeat (first | refine blk_drewN ?_ _ | refine blk_drew ?_ | refine blk_alloc ?_ _)); exact BK733.out) hb); have n1_ := Aside0.mk (blk_below (g := gb734) (o := .cells #[.slice A1_0 l1_0.length c1_0] 30 (0, 0)) (by (with_reducible repeat (first | refine blk_drewN ?_ _ | refine blk_drew ?_ | refine blk_alloc ?_ _)); exact BK734.out) hb); have n2_ := Aside0.mk (below_step (by repeat (first | (with_reducible first | exact HB.out | apply below_alloc | apply pw_below_drewN | apply below_drew1 | refine below_set ?_ GE733.out | refine below_set ?_ GE734.out) | exact HB.out)) hb); clear BK733; clear BK734; clear HB; have BK733 := n0_; have BK734 := n1_; have HB := n2_; clear n0_ n1_ n2_; (try clear hb); (try clear hb2); (try clear hk); (try clear hi)))
    repeat (go_quiet (first | (go_at_call 11; (with_reducible refine (entrepotlaw11_well.calls k a0_0 a0_1 a0_2 a0_3 a0_4 a0_5 _ _ l0_6 _ _ l0_7 true _ ?side1 ?side2 ?side3 ?side4 A6.out).mono ?_); (case side1 => repeat (first | exact (Kd.C_below HR0_6.out HB.out) | (with_reducible refine Kd.C_alloc ?_ _) | (with_reducible refine Kd.C_drewN ?_ _) | (with_reducible refine Kd.C_drew ?_))); (case side2 => exact HC0_6.out); (case side3 => repeat (first | exact (Kd.C_below HR0_7.out HB.out) | (with_reducible refine Kd.C_alloc ?_ _) | (with_reducible refine Kd.C_drewN ?_ _) | (with_reducible refine Kd.C_drew ?_))); (case side4 => exact HC0_7.out); rintro e w18 ⟨rfl, hb⟩; have n0_ := Aside0.mk (blk_below (g := gb733) (o := .cells #[.string a0_0, .int .i64 a0_1, .int .i64 a0_2, .int .i64 a0_3, .int .i64 a0_4, .int .i64 a0_5, .slice A0_6 l0_6.length c0_6, .slice A0_7 l0_7.length c0_7] 25 (0, 0)) (by (with_reducible repeat (first | refine blk_drewN ?_ _ | refine blk_drew ?_ | refine blk_alloc ?_ _)); exact BK733.out) hb); have n1_ := Aside0.mk (blk_below (g := gb734) (o := .cells #[.slice A1_0 l1_0.length c1_0] 30 (0, 0)) (by (with_reducible repeat (first | refine blk_drewN ?_ _ | refine blk_drew ?_ | refine blk_alloc ?_ _)); exact BK734.out) hb); have n2_ := Aside0.mk (below_step (by repeat (first | (with_reducible first | exact HB.out | apply below_alloc | apply pw_below_drewN | apply below_drew1 | refine below_set ?_ GE733.out | refine below_set ?_ GE734.out) | exact HB.out)) hb); clear BK733; clear BK734; clear HB; have BK733 := n0_; have BK734 := n1_; have HB := n2_; clear n0_ n1_ n2_; (try clear hb); (try clear hb2); (try clear hk); (try clear hi); obtain ⟨hcz19_0, hfz19_0⟩ := blk1_ BK734.out) | (go_at_call 15; (with_reducible refine (entrepotlaw11_long.calls k _ _ l1_0 false _ ?side1 ?side2 A8.out).mono ?_); (case side1 => repeat (first | exact (Kd.C_below HR1_0.out HB.out) | (with_reducible refine Kd.C_alloc ?_ _) | (with_reducible refine Kd.C_drewN ?_ _) | (with_reducible refine Kd.C_drew ?_))); (case side2 => exact HC1_0.out); rintro e w20 ⟨rfl, hb⟩; have n0_ := Aside0.mk (blk_below (g := gb733) (o := .cells #[.string a0_0, .int .i64 a0_1, .int .i64 a0_2, .int .i64 a0_3, .int .i64 a0_4, .int .i64 a0_5, .slice A0_6 l0_6.length c0_6, .slice A0_7 l0_7.length c0_7] 25 (0, 0)) (by (with_reducible repeat (first | refine blk_drewN ?_ _ | refine blk_drew ?_ | refine blk_alloc ?_ _)); exact BK733.out) hb); have n1_ := Aside0.mk (blk_below (g := gb734) (o := .cells #[.slice A1_0 l1_0.length c1_0] 30 (0, 0)) (by (with_reducible repeat (first | refine blk_drewN ?_ _ | refine blk_drew ?_ | refine blk_alloc ?_ _)); exact BK734.out) hb); have n2_ := Aside0.mk (below_step (by repeat (first | (with_reducible first | exact HB.out | apply below_alloc | apply pw_below_drewN | apply below_drew1 | refine below_set ?_ GE733.out | refine below_set ?_ GE734.out) | exact HB.out)) hb); clear BK733; clear BK734; clear HB; have BK733 := n0_; have BK734 := n1_; have HB := n2_; clear n0_ n1_ n2_; (try clear hb); (try clear hb2); (try clear hk); (try clear hi)) | (go_at_call 12; (with_reducible refine (entrepotlaw11_shown.calls  t737 _ A15.out).mono ?_); rintro e w21 ⟨rfl, hb⟩; have n0_ := Aside0.mk (blk_below (g := gb733) (o := .cells #[.string a0_0, .int .i64 a0_1, .int .i64 a0_2, .int .i64 a0_3, .int .i64 a0_4, .int .i64 a0_5, .slice A0_6 l0_6.length c0_6, .slice A0_7 l0_7.length c0_7] 25 (0, 0)) (by (with_reducible repeat (first | refine blk_drewN ?_ _ | refine blk_drew ?_ | refine blk_alloc ?_ _)); exact BK733.out) hb); have n1_ := Aside0.mk (blk_below (g := gb734) (o := .cells #[.slice A1_0 l1_0.length c1_0] 30 (0, 0)) (by (with_reducible repeat (first | refine blk_drewN ?_ _ | refine blk_drew ?_ | refine blk_alloc ?_ _)); exact BK734.out) hb); have n2_ := Aside0.mk (below_step (by repeat (first | (with_reducible first | exact HB.out | apply below_alloc | apply pw_below_drewN | apply below_drew1 | refine below_set ?_ GE733.out | refine below_set ?_ GE734.out) | exact HB.out)) hb); clear BK733; clear BK734; clear HB; have BK733 := n0_; have BK734 := n1_; have HB := n2_; clear n0_ n1_ n2_; (try clear hb); (try clear hb2); (try clear hk); (try clear hi))); try go_wp2_with (first | (go_at_call 11; (with_reducible refine (entrepotlaw11_well.calls k a0_0 a0_1 a0_2 a0_3 a0_4 a0_5 _ _ l0_6 _ _ l0_7 true _ ?side1 ?side2 ?side3 ?side4 A6.out).mono ?_); (case side1 => repeat (first | exact (Kd.C_below HR0_6.out HB.out) | (with_reducible refine Kd.C_alloc ?_ _) | (with_reducible refine Kd.C_drewN ?_ _) | (with_reducible refine Kd.C_drew ?_))); (case side2 => exact HC0_6.out); (case side3 => repeat (first | exact (Kd.C_below HR0_7.out HB.out) | (with_reducible refine Kd.C_alloc ?_ _) | (with_reducible refine Kd.C_drewN ?_ _) | (with_reducible refine Kd.C_drew ?_))); (case side4 => exact HC0_7.out); rintro e w18 ⟨rfl, hb⟩; have n0_ := Aside0.mk (blk_below (g := gb733) (o := .cells #[.string a0_0, .int .i64 a0_1, .int .i64 a0_2, .int .i64 a0_3, .int .i64 a0_4, .int .i64 a0_5, .slice A0_6 l0_6.length c0_6, .slice A0_7 l0_7.length c0_7] 25 (0, 0)) (by (with_reducible repeat (first | refine blk_drewN ?_ _ | refine blk_drew ?_ | refine blk_alloc ?_ _)); exact BK733.out) hb); have n1_ := Aside0.mk (blk_below (g := gb734) (o := .cells #[.slice A1_0 l1_0.length c1_0] 30 (0, 0)) (by (with_reducible repeat (first | refine blk_drewN ?_ _ | refine blk_drew ?_ | refine blk_alloc ?_ _)); exact BK734.out) hb); have n2_ := Aside0.mk (below_step (by repeat (first | (with_reducible first | exact HB.out | apply below_alloc | apply pw_below_drewN | apply below_drew1 | refine below_set ?_ GE733.out | refine below_set ?_ GE734.out) | exact HB.out)) hb); clear BK733; clear BK734; clear HB; have BK733 := n0_; have BK734 := n1_; have HB := n2_; clear n0_ n1_ n2_; (try clear hb); (try clear hb2); (try clear hk); (try clear hi); obtain ⟨hcz19_0, hfz19_0⟩ := blk1_ BK734.out) | (go_at_call 15; (with_reducible refine (entrepotlaw11_long.calls k _ _ l1_0 false _ ?side1 ?side2 A8.out).mono ?_); (case side1 => repeat (first | exact (Kd.C_below HR1_0.out HB.out) | (with_reducible refine Kd.C_alloc ?_ _) | (with_reducible refine Kd.C_drewN ?_ _) | (with_reducible refine Kd.C_drew ?_))); (case side2 => exact HC1_0.out); rintro e w20 ⟨rfl, hb⟩; have n0_ := Aside0.mk (blk_below (g := gb733) (o := .cells #[.string a0_0, .int .i64 a0_1, .int .i64 a0_2, .int .i64 a0_3, .int .i64 a0_4, .int .i64 a0_5, .slice A0_6 l0_6.length c0_6, .slice A0_7 l0_7.length c0_7] 25 (0, 0)) (by (with_reducible repeat (first | refine blk_drewN ?_ _ | refine blk_drew ?_ | refine blk_alloc ?_ _)); exact BK733.out) hb); have n1_ := Aside0.mk (blk_below (g := gb734) (o := .cells #[.slice A1_0 l1_0.length c1_0] 30 (0, 0)) (by (with_reducible repeat (first | refine blk_drewN ?_ _ | refine blk_drew ?_ | refine blk_alloc ?_ _)); exact BK734.out) hb); have n2_ := Aside0.mk (below_step (by repeat (first | (with_reducible first | exact HB.out | apply below_alloc | apply pw_below_drewN | apply below_drew1 | refine below_set ?_ GE733.out | refine below_set ?_ GE734.out) | exact HB.out)) hb); clear BK733; clear BK734; clear HB; have BK733 := n0_; have BK734 := n1_; have HB := n2_; clear n0_ n1_ n2_; (try clear hb); (try clear hb2); (try clear hk); (try clear hi)) | (go_at_call 12; (with_reducible refine (entrepotlaw11_shown.calls  t737 _ A15.out).mono ?_); rintro e w21 ⟨rfl, hb⟩; have n0_ := Aside0.mk (blk_below (g := gb733) (o := .cells #[.string a0_0, .int .i64 a0_1, .int .i64 a0_2, .int .i64 a0_3, .int .i64 a0_4, .int .i64 a0_5, .slice A0_6 l0_6.length c0_6, .slice A0_7 l0_7.length c0_7] 25 (0, 0)) (by (with_reducible repeat (first | refine blk_drewN ?_ _ | refine blk_drew ?_ | refine blk_alloc ?_ _)); exact BK733.out) hb); have n1_ := Aside0.mk (blk_below (g := gb734) (o := .cells #[.slice A1_0 l1_0.length c1_0] 30 (0, 0)) (by (with_reducible repeat (first | refine blk_drewN ?_ _ | refine blk_drew ?_ | refine blk_alloc ?_ _)); exact BK734.out) hb); have n2_ := Aside0.mk (below_step (by repeat (first | (with_reducible first | exact HB.out | apply below_alloc | apply pw_below_drewN | apply below_drew1 | refine below_set ?_ GE733.out | refine below_set ?_ GE734.out) | exact HB.out)) hb); clear BK733; clear BK734; clear HB; have BK733 := n0_; have BK734 := n1_; have HB := n2_; clear n0_ n1_ n2_; (try clear hb); (try clear hb2); (try clear hk); (try clear hi))))
    go_meet
    case rel => exact ⟨_, (!t737), (by first | rfl | (simp; done) | (simp [*]; done)), H', ⟨by first | omega | exact Nat.le_refl _⟩, ⟨by (with_reducible repeat (first | refine blk_drewN ?_ _ | refine blk_drew ?_ | refine blk_alloc ?_ _)); exact BK733.out⟩, ⟨by (with_reducible repeat (first | refine blk_drewN ?_ _ | refine blk_drew ?_ | refine blk_alloc ?_ _)); exact BK734.out⟩, ⟨by repeat (first | (with_reducible first | exact HB.out | apply below_alloc | apply pw_below_drewN | apply below_drew1 | refine below_set ?_ GE733.out | refine below_set ?_ GE734.out) | exact HB.out)⟩⟩
  ·replace c7 := Bool.eq_false_iff.mpr c7
   subst c7
   have H1 : (entrepotlaw11_FeasTold.j0 k true a0_0 a0_1 a0_2 a0_3 a0_4 a0_5 l0_6 l0_7 l1_0) = some r := by rw [if_neg (show ¬ (false = true) by decide)] at H; exact H
   clear H
   have H := H1
   clear H1
   have H' := Aside0.mk H
   clear H
   have hnb22 := NB733_734.out
   have hnc22 := NB734_733.out
   obtain ⟨hcz23_0, hcz23_1, hcz23_2, hcz23_3, hcz23_4, hcz23_5, hcz23_6, hcz23_7, hfz23_0, hfz23_1, hfz23_2, hfz23_3, hfz23_4, hfz23_5, hfz23_6, hfz23_7⟩ := blk8_ BK733.out
   go_wp2_with (first | (go_at_call 11; (with_reducible refine (entrepotlaw11_well.calls k a0_0 a0_1 a0_2 a0_3 a0_4 a0_5 _ _ l0_6 _ _ l0_7 false _ ?side1 ?side2 ?side3 ?side4 A6.out).mono ?_); (case side1 => repeat (first | exact (Kd.C_below HR0_6.out HB.out) | (with_reducible refine Kd.C_alloc ?_ _) | (with_reducible refine Kd.C_drewN ?_ _) | (with_reducible refine Kd.C_drew ?_))); (case side2 => exact HC0_6.out); (case side3 => repeat (first | exact (Kd.C_below HR0_7.out HB.out) | (with_reducible refine Kd.C_alloc ?_ _) | (with_reducible refine Kd.C_drewN ?_ _) | (with_reducible refine Kd.C_drew ?_))); (case side4 => exact HC0_7.out); rintro e w24 ⟨rfl, hb⟩; have n0_ := Aside0.mk (blk_below (g := gb733) (o := .cells #[.string a0_0, .int .i64 a0_1, .int .i64 a0_2, .int .i64 a0_3, .int .i64 a0_4, .int .i64 a0_5, .slice A0_6 l0_6.length c0_6, .slice A0_7 l0_7.length c0_7] 25 (0, 0)) (by (with_reducible repeat (first | refine blk_drewN ?_ _ | refine blk_drew ?_ | refine blk_alloc ?_ _)); exact BK733.out) hb); have n1_ := Aside0.mk (blk_below (g := gb734) (o := .cells #[.slice A1_0 l1_0.length c1_0] 30 (0, 0)) (by (with_reducible repeat (first | refine blk_drewN ?_ _ | refine blk_drew ?_ | refine blk_alloc ?_ _)); exact BK734.out) hb); have n2_ := Aside0.mk (below_step (by repeat (first | (with_reducible first | exact HB.out | apply below_alloc | apply pw_below_drewN | apply below_drew1 | refine below_set ?_ GE733.out | refine below_set ?_ GE734.out) | exact HB.out)) hb); clear BK733; clear BK734; clear HB; have BK733 := n0_; have BK734 := n1_; have HB := n2_; clear n0_ n1_ n2_; (try clear hb); (try clear hb2); (try clear hk); (try clear hi)))
   repeat (go_quiet (first | (go_at_call 11; (with_reducible refine (entrepotlaw11_well.calls k a0_0 a0_1 a0_2 a0_3 a0_4 a0_5 _ _ l0_6 _ _ l0_7 false _ ?side1 ?side2 ?side3 ?side4 A6.out).mono ?_); (case side1 => repeat (first | exact (Kd.C_below HR0_6.out HB.out) | (with_reducible refine Kd.C_alloc ?_ _) | (with_reducible refine Kd.C_drewN ?_ _) | (with_reducible refine Kd.C_drew ?_))); (case side2 => exact HC0_6.out); (case side3 => repeat (first | exact (Kd.C_below HR0_7.out HB.out) | (with_reducible refine Kd.C_alloc ?_ _) | (with_reducible refine Kd.C_drewN ?_ _) | (with_reducible refine Kd.C_drew ?_))); (case side4 => exact HC0_7.out); rintro e w24 ⟨rfl, hb⟩; have n0_ := Aside0.mk (blk_below (g := gb733) (o := .cells #[.string a0_0, .int .i64 a0_1, .int .i64 a0_2, .int .i64 a0_3, .int .i64 a0_4, .int .i64 a0_5, .slice A0_6 l0_6.length c0_6, .slice A0_7 l0_7.length c0_7] 25 (0, 0)) (by (with_reducible repeat (first | refine blk_drewN ?_ _ | refine blk_drew ?_ | refine blk_alloc ?_ _)); exact BK733.out) hb); have n1_ := Aside0.mk (blk_below (g := gb734) (o := .cells #[.slice A1_0 l1_0.length c1_0] 30 (0, 0)) (by (with_reducible repeat (first | refine blk_drewN ?_ _ | refine blk_drew ?_ | refine blk_alloc ?_ _)); exact BK734.out) hb); have n2_ := Aside0.mk (below_step (by repeat (first | (with_reducible first | exact HB.out | apply below_alloc | apply pw_below_drewN | apply below_drew1 | refine below_set ?_ GE733.out | refine below_set ?_ GE734.out) | exact HB.out)) hb); clear BK733; clear BK734; clear HB; have BK733 := n0_; have BK734 := n1_; have HB := n2_; clear n0_ n1_ n2_; (try clear hb); (try clear hb2); (try clear hk); (try clear hi))); try go_wp2_with (first | (go_at_call 11; (with_reducible refine (entrepotlaw11_well.calls k a0_0 a0_1 a0_2 a0_3 a0_4 a0_5 _ _ l0_6 _ _ l0_7 false _ ?side1 ?side2 ?side3 ?side4 A6.out).mono ?_); (case side1 => repeat (first | exact (Kd.C_below HR0_6.out HB.out) | (with_reducible refine Kd.C_alloc ?_ _) | (with_reducible refine Kd.C_drewN ?_ _) | (with_reducible refine Kd.C_drew ?_))); (case side2 => exact HC0_6.out); (case side3 => repeat (first | exact (Kd.C_below HR0_7.out HB.out) | (with_reducible refine Kd.C_alloc ?_ _) | (with_reducible refine Kd.C_drewN ?_ _) | (with_reducible refine Kd.C_drew ?_))); (case side4 => exact HC0_7.out); rintro e w24 ⟨rfl, hb⟩; have n0_ := Aside0.mk (blk_below (g := gb733) (o := .cells #[.string a0_0, .int .i64 a0_1, .int .i64 a0_2, .int .i64 a0_3, .int .i64 a0_4, .int .i64 a0_5, .slice A0_6 l0_6.length c0_6, .slice A0_7 l0_7.length c0_7] 25 (0, 0)) (by (with_reducible repeat (first | refine blk_drewN ?_ _ | refine blk_drew ?_ | refine blk_alloc ?_ _)); exact BK733.out) hb); have n1_ := Aside0.mk (blk_below (g := gb734) (o := .cells #[.slice A1_0 l1_0.length c1_0] 30 (0, 0)) (by (with_reducible repeat (first | refine blk_drewN ?_ _ | refine blk_drew ?_ | refine blk_alloc ?_ _)); exact BK734.out) hb); have n2_ := Aside0.mk (below_step (by repeat (first | (with_reducible first | exact HB.out | apply below_alloc | apply pw_below_drewN | apply below_drew1 | refine below_set ?_ GE733.out | refine below_set ?_ GE734.out) | exact HB.out)) hb); clear BK733; clear BK734; clear HB; have BK733 := n0_; have BK734 := n1_; have HB := n2_; clear n0_ n1_ n2_; (try clear hb); (try clear hb2); (try clear hk); (try clear hi))))
   go_meet
   case rel => exact ⟨_, (true), (by first | rfl | (simp; done) | (simp [*]; done)), H', ⟨by first | omega | exact Nat.le_refl _⟩, ⟨by (with_reducible repeat (first | refine blk_drewN ?_ _ | refine blk_drew ?_ | refine blk_alloc ?_ _)); exact BK733.out⟩, ⟨by (with_reducible repeat (first | refine blk_drewN ?_ _ | refine blk_drew ?_ | refine blk_alloc ?_ _)); exact BK734.out⟩, ⟨by repeat (first | (with_reducible first | exact HB.out | apply below_alloc | apply pw_below_drewN | apply below_drew1 | refine below_set ?_ GE733.out | refine below_set ?_ GE734.out) | exact HB.out)⟩⟩
 case rest => as_aux_lemma =>
  clear HC3
  obtain ⟨kq, x23_2, rfl, HA, HJ2, BK733, BK734, HB⟩ := hcut
  cases kq with
  | zero => exact absurd HA.out (by simp [entrepotlaw11_FeasTold.j0])
  | succ kj2 =>
   have H := HA.out
   clear HA
   simp only [entrepotlaw11_FeasTold.j0] at H
   by_cases c25 : x23_2 = true
   ·subst c25
    have H1 : ((entrepotlaw11_shown.f).bind fun t738 => (some t738)) = some r := by rw [if_pos rfl] at H; exact H
    clear H
    have H := H1
    clear H1
    replace H := Option.bind_eq_some_iff.mp H
    obtain ⟨t738, A260, H⟩ := H
    replace H : (some t738) = some r := H
    have A26 := Aside0.mk A260
    clear A260
    obtain rfl := Option.some.inj H
    go_wp2_with (first | (go_at_call 12; (with_reducible refine (entrepotlaw11_shown.calls  t738 _ A26.out).mono ?_); rintro e w27 ⟨rfl, hb⟩; have n0_ := Aside0.mk (blk_below (g := gb733) (o := .cells #[.string a0_0, .int .i64 a0_1, .int .i64 a0_2, .int .i64 a0_3, .int .i64 a0_4, .int .i64 a0_5, .slice A0_6 l0_6.length c0_6, .slice A0_7 l0_7.length c0_7] 25 (0, 0)) (by (with_reducible repeat (first | refine blk_drewN ?_ _ | refine blk_drew ?_ | refine blk_alloc ?_ _)); exact BK733.out) hb); have n1_ := Aside0.mk (blk_below (g := gb734) (o := .cells #[.slice A1_0 l1_0.length c1_0] 30 (0, 0)) (by (with_reducible repeat (first | refine blk_drewN ?_ _ | refine blk_drew ?_ | refine blk_alloc ?_ _)); exact BK734.out) hb); have n2_ := Aside0.mk (below_step (by repeat (first | (with_reducible first | exact HB.out | apply below_alloc | apply pw_below_drewN | apply below_drew1 | refine below_set ?_ GE733.out | refine below_set ?_ GE734.out) | exact HB.out)) hb); clear BK733; clear BK734; clear HB; have BK733 := n0_; have BK734 := n1_; have HB := n2_; clear n0_ n1_ n2_; (try clear hb); (try clear hb2); (try clear hk); (try clear hi)))
    repeat (go_quiet (first | (go_at_call 12; (with_reducible refine (entrepotlaw11_shown.calls  t738 _ A26.out).mono ?_); rintro e w27 ⟨rfl, hb⟩; have n0_ := Aside0.mk (blk_below (g := gb733) (o := .cells #[.string a0_0, .int .i64 a0_1, .int .i64 a0_2, .int .i64 a0_3, .int .i64 a0_4, .int .i64 a0_5, .slice A0_6 l0_6.length c0_6, .slice A0_7 l0_7.length c0_7] 25 (0, 0)) (by (with_reducible repeat (first | refine blk_drewN ?_ _ | refine blk_drew ?_ | refine blk_alloc ?_ _)); exact BK733.out) hb); have n1_ := Aside0.mk (blk_below (g := gb734) (o := .cells #[.slice A1_0 l1_0.length c1_0] 30 (0, 0)) (by (with_reducible repeat (first | refine blk_drewN ?_ _ | refine blk_drew ?_ | refine blk_alloc ?_ _)); exact BK734.out) hb); have n2_ := Aside0.mk (below_step (by repeat (first | (with_reducible first | exact HB.out | apply below_alloc | apply pw_below_drewN | apply below_drew1 | refine below_set ?_ GE733.out | refine below_set ?_ GE734.out) | exact HB.out)) hb); clear BK733; clear BK734; clear HB; have BK733 := n0_; have BK734 := n1_; have HB := n2_; clear n0_ n1_ n2_; (try clear hb); (try clear hb2); (try clear hk); (try clear hi))); try go_wp2_with (first | (go_at_call 12; (with_reducible refine (entrepotlaw11_shown.calls  t738 _ A26.out).mono ?_); rintro e w27 ⟨rfl, hb⟩; have n0_ := Aside0.mk (blk_below (g := gb733) (o := .cells #[.string a0_0, .int .i64 a0_1, .int .i64 a0_2, .int .i64 a0_3, .int .i64 a0_4, .int .i64 a0_5, .slice A0_6 l0_6.length c0_6, .slice A0_7 l0_7.length c0_7] 25 (0, 0)) (by (with_reducible repeat (first | refine blk_drewN ?_ _ | refine blk_drew ?_ | refine blk_alloc ?_ _)); exact BK733.out) hb); have n1_ := Aside0.mk (blk_below (g := gb734) (o := .cells #[.slice A1_0 l1_0.length c1_0] 30 (0, 0)) (by (with_reducible repeat (first | refine blk_drewN ?_ _ | refine blk_drew ?_ | refine blk_alloc ?_ _)); exact BK734.out) hb); have n2_ := Aside0.mk (below_step (by repeat (first | (with_reducible first | exact HB.out | apply below_alloc | apply pw_below_drewN | apply below_drew1 | refine below_set ?_ GE733.out | refine below_set ?_ GE734.out) | exact HB.out)) hb); clear BK733; clear BK734; clear HB; have BK733 := n0_; have BK734 := n1_; have HB := n2_; clear n0_ n1_ n2_; (try clear hb); (try clear hb2); (try clear hk); (try clear hi))))
    go_ret
    exact ⟨by first | rfl | (simp [errW_none, errW_some] <;> rfl) | (simp [*, errW_none, errW_some] <;> rfl), by repeat (first | (with_reducible first | exact HB.out | apply below_alloc | apply pw_below_drewN | apply below_drew1 | refine below_set ?_ GE733.out | refine below_set ?_ GE734.out) | exact HB.out)⟩
   ·replace c25 := Bool.eq_false_iff.mpr c25
    subst c25
    have H1 : ((feas_Check.f a0_0 a0_1 a0_2 a0_3 a0_4 a0_5 l0_6 l0_7 l1_0).bind fun t739 => (entrepotlaw11_FeasTold.l0 kj2 t739 0 l1_0)) = some r := by rw [if_neg (show ¬ (false = true) by decide)] at H; exact H
    clear H
    have H := H1
    clear H1
    replace H := Option.bind_eq_some_iff.mp H
    obtain ⟨t739, A280, H⟩ := H
    replace H : (entrepotlaw11_FeasTold.l0 kj2 t739 0 l1_0) = some r := H
    have A28 := Aside0.mk A280
    clear A280
    have H' := Aside0.mk H
    clear H
    have hnb29 := NB733_734.out
    have hnc29 := NB734_733.out
    obtain ⟨hcz30_0, hcz30_1, hcz30_2, hcz30_3, hcz30_4, hcz30_5, hcz30_6, hcz30_7, hfz30_0, hfz30_1, hfz30_2, hfz30_3, hfz30_4, hfz30_5, hfz30_6, hfz30_7⟩ := blk8_ BK733.out
    obtain ⟨hcz31_0, hfz31_0⟩ := blk1_ BK734.out
    go_wp2_with (first | (go_at_call 14; (with_reducible refine (feas_Check.calls a0_0 a0_1 a0_2 a0_3 a0_4 a0_5 _ _ l0_6 _ _ l0_7 _ _ l1_0 t739 _ ?side1 ?side2 ?side3 ?side4 ?side5 ?side6 A28.out).mono ?_); (case side1 => repeat (first | exact (Kd.C_below HR0_6.out HB.out) | (with_reducible refine Kd.C_alloc ?_ _) | (with_reducible refine Kd.C_drewN ?_ _) | (with_reducible refine Kd.C_drew ?_))); (case side2 => exact HC0_6.out); (case side3 => repeat (first | exact (Kd.C_below HR0_7.out HB.out) | (with_reducible refine Kd.C_alloc ?_ _) | (with_reducible refine Kd.C_drewN ?_ _) | (with_reducible refine Kd.C_drew ?_))); (case side4 => exact HC0_7.out); (case side5 => repeat (first | exact (Kd.C_below HR1_0.out HB.out) | (with_reducible refine Kd.C_alloc ?_ _) | (with_reducible refine Kd.C_drewN ?_ _) | (with_reducible refine Kd.C_drew ?_))); (case side6 => exact HC1_0.out); rintro e w32 ⟨v740, rfl, ho0, hb⟩; have n0_ := Aside0.mk (Kd.R_lower ho0 (below_size (by repeat (first | (with_reducible first | exact HB.out | apply below_alloc | apply pw_below_drewN | apply below_drew1 | refine below_set ?_ GE733.out | refine below_set ?_ GE734.out) | exact HB.out)))); have n1_ := Aside0.mk (blk_below (g := gb733) (o := .cells #[.string a0_0, .int .i64 a0_1, .int .i64 a0_2, .int .i64 a0_3, .int .i64 a0_4, .int .i64 a0_5, .slice A0_6 l0_6.length c0_6, .slice A0_7 l0_7.length c0_7] 25 (0, 0)) (by (with_reducible repeat (first | refine blk_drewN ?_ _ | refine blk_drew ?_ | refine blk_alloc ?_ _)); exact BK733.out) hb); have n2_ := Aside0.mk (blk_below (g := gb734) (o := .cells #[.slice A1_0 l1_0.length c1_0] 30 (0, 0)) (by (with_reducible repeat (first | refine blk_drewN ?_ _ | refine blk_drew ?_ | refine blk_alloc ?_ _)); exact BK734.out) hb); have n3_ := Aside0.mk (below_step (by repeat (first | (with_reducible first | exact HB.out | apply below_alloc | apply pw_below_drewN | apply below_drew1 | refine below_set ?_ GE733.out | refine below_set ?_ GE734.out) | exact HB.out)) hb); clear BK733; clear BK734; clear HB; have HO741 := n0_; have BK733 := n1_; have BK734 := n2_; have HB := n3_; clear n0_ n1_ n2_ n3_; (try clear hb); (try clear hb2); (try clear hk); (try clear hi); (try clear ho0)))
    repeat (go_quiet (first | (go_at_call 14; (with_reducible refine (feas_Check.calls a0_0 a0_1 a0_2 a0_3 a0_4 a0_5 _ _ l0_6 _ _ l0_7 _ _ l1_0 t739 _ ?side1 ?side2 ?side3 ?side4 ?side5 ?side6 A28.out).mono ?_); (case side1 => repeat (first | exact (Kd.C_below HR0_6.out HB.out) | (with_reducible refine Kd.C_alloc ?_ _) | (with_reducible refine Kd.C_drewN ?_ _) | (with_reducible refine Kd.C_drew ?_))); (case side2 => exact HC0_6.out); (case side3 => repeat (first | exact (Kd.C_below HR0_7.out HB.out) | (with_reducible refine Kd.C_alloc ?_ _) | (with_reducible refine Kd.C_drewN ?_ _) | (with_reducible refine Kd.C_drew ?_))); (case side4 => exact HC0_7.out); (case side5 => repeat (first | exact (Kd.C_below HR1_0.out HB.out) | (with_reducible refine Kd.C_alloc ?_ _) | (with_reducible refine Kd.C_drewN ?_ _) | (with_reducible refine Kd.C_drew ?_))); (case side6 => exact HC1_0.out); rintro e w32 ⟨v740, rfl, ho0, hb⟩; have n0_ := Aside0.mk (Kd.R_lower ho0 (below_size (by repeat (first | (with_reducible first | exact HB.out | apply below_alloc | apply pw_below_drewN | apply below_drew1 | refine below_set ?_ GE733.out | refine below_set ?_ GE734.out) | exact HB.out)))); have n1_ := Aside0.mk (blk_below (g := gb733) (o := .cells #[.string a0_0, .int .i64 a0_1, .int .i64 a0_2, .int .i64 a0_3, .int .i64 a0_4, .int .i64 a0_5, .slice A0_6 l0_6.length c0_6, .slice A0_7 l0_7.length c0_7] 25 (0, 0)) (by (with_reducible repeat (first | refine blk_drewN ?_ _ | refine blk_drew ?_ | refine blk_alloc ?_ _)); exact BK733.out) hb); have n2_ := Aside0.mk (blk_below (g := gb734) (o := .cells #[.slice A1_0 l1_0.length c1_0] 30 (0, 0)) (by (with_reducible repeat (first | refine blk_drewN ?_ _ | refine blk_drew ?_ | refine blk_alloc ?_ _)); exact BK734.out) hb); have n3_ := Aside0.mk (below_step (by repeat (first | (with_reducible first | exact HB.out | apply below_alloc | apply pw_below_drewN | apply below_drew1 | refine below_set ?_ GE733.out | refine below_set ?_ GE734.out) | exact HB.out)) hb); clear BK733; clear BK734; clear HB; have HO741 := n0_; have BK733 := n1_; have BK734 := n2_; have HB := n3_; clear n0_ n1_ n2_ n3_; (try clear hb); (try clear hb2); (try clear hk); (try clear hi); (try clear ho0))); try go_wp2_with (first | (go_at_call 14; (with_reducible refine (feas_Check.calls a0_0 a0_1 a0_2 a0_3 a0_4 a0_5 _ _ l0_6 _ _ l0_7 _ _ l1_0 t739 _ ?side1 ?side2 ?side3 ?side4 ?side5 ?side6 A28.out).mono ?_); (case side1 => repeat (first | exact (Kd.C_below HR0_6.out HB.out) | (with_reducible refine Kd.C_alloc ?_ _) | (with_reducible refine Kd.C_drewN ?_ _) | (with_reducible refine Kd.C_drew ?_))); (case side2 => exact HC0_6.out); (case side3 => repeat (first | exact (Kd.C_below HR0_7.out HB.out) | (with_reducible refine Kd.C_alloc ?_ _) | (with_reducible refine Kd.C_drewN ?_ _) | (with_reducible refine Kd.C_drew ?_))); (case side4 => exact HC0_7.out); (case side5 => repeat (first | exact (Kd.C_below HR1_0.out HB.out) | (with_reducible refine Kd.C_alloc ?_ _) | (with_reducible refine Kd.C_drewN ?_ _) | (with_reducible refine Kd.C_drew ?_))); (case side6 => exact HC1_0.out); rintro e w32 ⟨v740, rfl, ho0, hb⟩; have n0_ := Aside0.mk (Kd.R_lower ho0 (below_size (by repeat (first | (with_reducible first | exact HB.out | apply below_alloc | apply pw_below_drewN | apply below_drew1 | refine below_set ?_ GE733.out | refine below_set ?_ GE734.out) | exact HB.out)))); have n1_ := Aside0.mk (blk_below (g := gb733) (o := .cells #[.string a0_0, .int .i64 a0_1, .int .i64 a0_2, .int .i64 a0_3, .int .i64 a0_4, .int .i64 a0_5, .slice A0_6 l0_6.length c0_6, .slice A0_7 l0_7.length c0_7] 25 (0, 0)) (by (with_reducible repeat (first | refine blk_drewN ?_ _ | refine blk_drew ?_ | refine blk_alloc ?_ _)); exact BK733.out) hb); have n2_ := Aside0.mk (blk_below (g := gb734) (o := .cells #[.slice A1_0 l1_0.length c1_0] 30 (0, 0)) (by (with_reducible repeat (first | refine blk_drewN ?_ _ | refine blk_drew ?_ | refine blk_alloc ?_ _)); exact BK734.out) hb); have n3_ := Aside0.mk (below_step (by repeat (first | (with_reducible first | exact HB.out | apply below_alloc | apply pw_below_drewN | apply below_drew1 | refine below_set ?_ GE733.out | refine below_set ?_ GE734.out) | exact HB.out)) hb); clear BK733; clear BK734; clear HB; have HO741 := n0_; have BK733 := n1_; have BK734 := n2_; have HB := n3_; clear n0_ n1_ n2_ n3_; (try clear hb); (try clear hb2); (try clear hk); (try clear hi); (try clear ho0))))
    go_loopg [6] kj2 (fun kq v6 w' => ∃ (x6_2 : Int), v6 = .int .i64 x6_2 ∧ Aside0 (entrepotlaw11_FeasTold.l0 kq t739 x6_2 l1_0 = some r) ∧ Aside0 (kq ≤ kj2) ∧ Aside0 (Kd.R k37 37 w' w.heap.size (fun _ => True) v740 t739) ∧ Aside0 (w'.heap[gb733]? = some (.cells #[.string a0_0, .int .i64 a0_1, .int .i64 a0_2, .int .i64 a0_3, .int .i64 a0_4, .int .i64 a0_5, (.slice A0_6 l0_6.length c0_6), (.slice A0_7 l0_7.length c0_7)] 25 (0, 0))) ∧ Aside0 (w'.heap[gb734]? = some (.cells #[(.slice A1_0 l1_0.length c1_0)] 30 (0, 0))) ∧ Aside0 (Below w.heap.size w w'))
    case atStart => exact ⟨(0), (by first | rfl | (simp; done) | (simp [*]; done)), H', ⟨Nat.le_refl _⟩, ⟨by (with_reducible repeat (first | apply Kd.R_alloc | apply Kd.R_drewN | apply Kd.R_drew)); exact HO741.out⟩, ⟨by (with_reducible repeat (first | refine blk_drewN ?_ _ | refine blk_drew ?_ | refine blk_alloc ?_ _)); exact BK733.out⟩, ⟨by (with_reducible repeat (first | refine blk_drewN ?_ _ | refine blk_drew ?_ | refine blk_alloc ?_ _)); exact BK734.out⟩, ⟨by repeat (first | (with_reducible first | exact HB.out | apply below_alloc | apply pw_below_drewN | apply below_drew1 | refine below_set ?_ GE733.out | refine below_set ?_ GE734.out) | exact HB.out)⟩⟩
    case round =>
     clear H'
     (try clear c25); (try clear hcz30_0); (try clear hcz30_1); (try clear hcz30_2); (try clear hcz30_3); (try clear hcz30_4); (try clear hcz30_5); (try clear hcz30_6); (try clear hcz30_7); (try clear hcz31_0); (try clear hfz30_0); (try clear hfz30_1); (try clear hfz30_2); (try clear hfz30_3); (try clear hfz30_4); (try clear hfz30_5); (try clear hfz30_6); (try clear hfz30_7); (try clear hfz31_0)
     obtain ⟨x6_2, rfl, HA, HK2, HO_5, BK733, BK734, HB⟩ := hrel
     cases gk with
     | zero => exact absurd HA.out (by simp [entrepotlaw11_FeasTold.l0])
     | succ k2 =>
      have H := HA.out
      clear HA
      simp only [entrepotlaw11_FeasTold.l0] at H
      by_cases c33 : x6_2 < (t739.length : Int)
      ·rw [if_pos c33] at H
       have c33b0 : decide (x6_2 < (t739.length : Int)) = true := decide_eq_true c33
       clear c33
       by_cases c34 : 0 ≤ x6_2
       ·rw [if_pos c34] at H
        have c34b0 : decide (0 ≤ x6_2) = true := decide_eq_true c34
        clear c34
        have H' := Aside0.mk H
        clear H
        obtain ⟨Ao35, co35, eo35⟩ := Kd.R_slice HO_5.out
        subst eo35
        have p742 : 0 ≤ (x6_2 : Int) := of_decide_eq_true (by first | (with_reducible assumption) | assumption)
        have q742 : x6_2 < (t739.length : Int) := of_decide_eq_true (by first | (with_reducible assumption) | assumption)
        obtain ⟨ad742, e742, hx742_0, hx742_1, hx742_2⟩ := at_T37 (Kd.R_reads' HO_5.out).2.2 x6_2 p742 q742
        cases e742
        replace p742 := eq_true p742
        replace q742 := eq_true q742
        go_wp2_with (first | ((with_reducible refine gate_dst (N := 7) rfl ?_); refine box_event ?hg (N := 7) ?hd (cs := #[.int .i64 0, .int .i64 0, .int .i64 0]) (t := 37) ?hr ?_; (case hd => rfl); (case hg => rfl); (case hr => first | (go_simp; done) | (go_simp; rfl)); intro gb743 hg w36 hbox hb; have n0_ := Aside0.mk (Kd.R_below (Kd.R_elderB (by (with_reducible repeat (first | apply Kd.R_alloc | apply Kd.R_drewN | apply Kd.R_drew)); exact HO_5.out) gb743 (Nat.le_of_eq hg.symm)) hb); have n1_ := Aside0.mk (blk_below (g := gb733) (o := .cells #[.string a0_0, .int .i64 a0_1, .int .i64 a0_2, .int .i64 a0_3, .int .i64 a0_4, .int .i64 a0_5, .slice A0_6 l0_6.length c0_6, .slice A0_7 l0_7.length c0_7] 25 (0, 0)) (by (with_reducible repeat (first | refine blk_drewN ?_ _ | refine blk_drew ?_ | refine blk_alloc ?_ _)); exact BK733.out) hb); have n2_ := Aside0.mk (blk_below (g := gb734) (o := .cells #[.slice A1_0 l1_0.length c1_0] 30 (0, 0)) (by (with_reducible repeat (first | refine blk_drewN ?_ _ | refine blk_drew ?_ | refine blk_alloc ?_ _)); exact BK734.out) hb); have n3_ := Aside0.mk (below_step (by repeat (first | (with_reducible first | exact HB.out | apply below_alloc | apply pw_below_drewN | apply below_drew1 | refine below_set ?_ GE733.out | refine below_set ?_ GE734.out) | exact HB.out)) hb); have n4_ := Aside0.mk (hbox); have n5_ := Aside0.mk ((by rw [hg]; exact (below_size (by repeat (first | (with_reducible first | exact HB.out | apply below_alloc | apply pw_below_drewN | apply below_drew1 | refine below_set ?_ GE733.out | refine below_set ?_ GE734.out) | exact HB.out))) : w.heap.size ≤ gb743)); have n6_ := Aside0.mk ((by rw [hg]; exact (below_size (by repeat (first | (with_reducible first | exact HB.out | apply below_alloc | apply pw_below_drewN | apply below_drew1 | refine below_set ?_ GE733.out | refine below_set ?_ GE734.out) | exact HB.out))) : w.heap.size ≤ gb743)); have n7_ := Aside0.mk ((by rw [hg]; exact Nat.ne_of_lt (blk_lt (g := gb733) (o := .cells #[.string a0_0, .int .i64 a0_1, .int .i64 a0_2, .int .i64 a0_3, .int .i64 a0_4, .int .i64 a0_5, .slice A0_6 l0_6.length c0_6, .slice A0_7 l0_7.length c0_7] 25 (0, 0)) (by (with_reducible repeat (first | refine blk_drewN ?_ _ | refine blk_drew ?_ | refine blk_alloc ?_ _)); exact BK733.out)) : gb733 ≠ gb743)); have n8_ := Aside0.mk ((by rw [hg]; exact Nat.ne_of_gt (blk_lt (g := gb733) (o := .cells #[.string a0_0, .int .i64 a0_1, .int .i64 a0_2, .int .i64 a0_3, .int .i64 a0_4, .int .i64 a0_5, .slice A0_6 l0_6.length c0_6, .slice A0_7 l0_7.length c0_7] 25 (0, 0)) (by (with_reducible repeat (first | refine blk_drewN ?_ _ | refine blk_drew ?_ | refine blk_alloc ?_ _)); exact BK733.out)) : gb743 ≠ gb733)); have n9_ := Aside0.mk ((by rw [hg]; exact Nat.ne_of_lt (blk_lt (g := gb734) (o := .cells #[.slice A1_0 l1_0.length c1_0] 30 (0, 0)) (by (with_reducible repeat (first | refine blk_drewN ?_ _ | refine blk_drew ?_ | refine blk_alloc ?_ _)); exact BK734.out)) : gb734 ≠ gb743)); have n10_ := Aside0.mk ((by rw [hg]; exact Nat.ne_of_gt (blk_lt (g := gb734) (o := .cells #[.slice A1_0 l1_0.length c1_0] 30 (0, 0)) (by (with_reducible repeat (first | refine blk_drewN ?_ _ | refine blk_drew ?_ | refine blk_alloc ?_ _)); exact BK734.out)) : gb743 ≠ gb734)); clear HO_5; clear BK733; clear BK734; clear HB; have HO_5 := n0_; have BK733 := n1_; have BK734 := n2_; have HB := n3_; have BK743 := n4_; have GW743 := n5_; have GE743 := n6_; have NB733_743 := n7_; have NB743_733 := n8_; have NB734_743 := n9_; have NB743_734 := n10_; clear n0_ n1_ n2_ n3_ n4_ n5_ n6_ n7_ n8_ n9_ n10_; clear hb hbox hg; have hnb37 := NB743_733.out; have hnc37 := NB733_743.out; have hnb38 := NB743_734.out; have hnc38 := NB734_743.out; obtain ⟨hcz39_0, hcz39_1, hcz39_2, hfz39_0, hfz39_1, hfz39_2⟩ := blk3_ BK743.out))
        repeat (go_quiet (first | ((with_reducible refine gate_dst (N := 7) rfl ?_); refine box_event ?hg (N := 7) ?hd (cs := #[.int .i64 0, .int .i64 0, .int .i64 0]) (t := 37) ?hr ?_; (case hd => rfl); (case hg => rfl); (case hr => first | (go_simp; done) | (go_simp; rfl)); intro gb743 hg w36 hbox hb; have n0_ := Aside0.mk (Kd.R_below (Kd.R_elderB (by (with_reducible repeat (first | apply Kd.R_alloc | apply Kd.R_drewN | apply Kd.R_drew)); exact HO_5.out) gb743 (Nat.le_of_eq hg.symm)) hb); have n1_ := Aside0.mk (blk_below (g := gb733) (o := .cells #[.string a0_0, .int .i64 a0_1, .int .i64 a0_2, .int .i64 a0_3, .int .i64 a0_4, .int .i64 a0_5, .slice A0_6 l0_6.length c0_6, .slice A0_7 l0_7.length c0_7] 25 (0, 0)) (by (with_reducible repeat (first | refine blk_drewN ?_ _ | refine blk_drew ?_ | refine blk_alloc ?_ _)); exact BK733.out) hb); have n2_ := Aside0.mk (blk_below (g := gb734) (o := .cells #[.slice A1_0 l1_0.length c1_0] 30 (0, 0)) (by (with_reducible repeat (first | refine blk_drewN ?_ _ | refine blk_drew ?_ | refine blk_alloc ?_ _)); exact BK734.out) hb); have n3_ := Aside0.mk (below_step (by repeat (first | (with_reducible first | exact HB.out | apply below_alloc | apply pw_below_drewN | apply below_drew1 | refine below_set ?_ GE733.out | refine below_set ?_ GE734.out) | exact HB.out)) hb); have n4_ := Aside0.mk (hbox); have n5_ := Aside0.mk ((by rw [hg]; exact (below_size (by repeat (first | (with_reducible first | exact HB.out | apply below_alloc | apply pw_below_drewN | apply below_drew1 | refine below_set ?_ GE733.out | refine below_set ?_ GE734.out) | exact HB.out))) : w.heap.size ≤ gb743)); have n6_ := Aside0.mk ((by rw [hg]; exact (below_size (by repeat (first | (with_reducible first | exact HB.out | apply below_alloc | apply pw_below_drewN | apply below_drew1 | refine below_set ?_ GE733.out | refine below_set ?_ GE734.out) | exact HB.out))) : w.heap.size ≤ gb743)); have n7_ := Aside0.mk ((by rw [hg]; exact Nat.ne_of_lt (blk_lt (g := gb733) (o := .cells #[.string a0_0, .int .i64 a0_1, .int .i64 a0_2, .int .i64 a0_3, .int .i64 a0_4, .int .i64 a0_5, .slice A0_6 l0_6.length c0_6, .slice A0_7 l0_7.length c0_7] 25 (0, 0)) (by (with_reducible repeat (first | refine blk_drewN ?_ _ | refine blk_drew ?_ | refine blk_alloc ?_ _)); exact BK733.out)) : gb733 ≠ gb743)); have n8_ := Aside0.mk ((by rw [hg]; exact Nat.ne_of_gt (blk_lt (g := gb733) (o := .cells #[.string a0_0, .int .i64 a0_1, .int .i64 a0_2, .int .i64 a0_3, .int .i64 a0_4, .int .i64 a0_5, .slice A0_6 l0_6.length c0_6, .slice A0_7 l0_7.length c0_7] 25 (0, 0)) (by (with_reducible repeat (first | refine blk_drewN ?_ _ | refine blk_drew ?_ | refine blk_alloc ?_ _)); exact BK733.out)) : gb743 ≠ gb733)); have n9_ := Aside0.mk ((by rw [hg]; exact Nat.ne_of_lt (blk_lt (g := gb734) (o := .cells #[.slice A1_0 l1_0.length c1_0] 30 (0, 0)) (by (with_reducible repeat (first | refine blk_drewN ?_ _ | refine blk_drew ?_ | refine blk_alloc ?_ _)); exact BK734.out)) : gb734 ≠ gb743)); have n10_ := Aside0.mk ((by rw [hg]; exact Nat.ne_of_gt (blk_lt (g := gb734) (o := .cells #[.slice A1_0 l1_0.length c1_0] 30 (0, 0)) (by (with_reducible repeat (first | refine blk_drewN ?_ _ | refine blk_drew ?_ | refine blk_alloc ?_ _)); exact BK734.out)) : gb743 ≠ gb734)); clear HO_5; clear BK733; clear BK734; clear HB; have HO_5 := n0_; have BK733 := n1_; have BK734 := n2_; have HB := n3_; have BK743 := n4_; have GW743 := n5_; have GE743 := n6_; have NB733_743 := n7_; have NB743_733 := n8_; have NB734_743 := n9_; have NB743_734 := n10_; clear n0_ n1_ n2_ n3_ n4_ n5_ n6_ n7_ n8_ n9_ n10_; clear hb hbox hg; have hnb37 := NB743_733.out; have hnc37 := NB733_743.out; have hnb38 := NB743_734.out; have hnc38 := NB734_743.out; obtain ⟨hcz39_0, hcz39_1, hcz39_2, hfz39_0, hfz39_1, hfz39_2⟩ := blk3_ BK743.out)); try go_wp2_with (first | ((with_reducible refine gate_dst (N := 7) rfl ?_); refine box_event ?hg (N := 7) ?hd (cs := #[.int .i64 0, .int .i64 0, .int .i64 0]) (t := 37) ?hr ?_; (case hd => rfl); (case hg => rfl); (case hr => first | (go_simp; done) | (go_simp; rfl)); intro gb743 hg w36 hbox hb; have n0_ := Aside0.mk (Kd.R_below (Kd.R_elderB (by (with_reducible repeat (first | apply Kd.R_alloc | apply Kd.R_drewN | apply Kd.R_drew)); exact HO_5.out) gb743 (Nat.le_of_eq hg.symm)) hb); have n1_ := Aside0.mk (blk_below (g := gb733) (o := .cells #[.string a0_0, .int .i64 a0_1, .int .i64 a0_2, .int .i64 a0_3, .int .i64 a0_4, .int .i64 a0_5, .slice A0_6 l0_6.length c0_6, .slice A0_7 l0_7.length c0_7] 25 (0, 0)) (by (with_reducible repeat (first | refine blk_drewN ?_ _ | refine blk_drew ?_ | refine blk_alloc ?_ _)); exact BK733.out) hb); have n2_ := Aside0.mk (blk_below (g := gb734) (o := .cells #[.slice A1_0 l1_0.length c1_0] 30 (0, 0)) (by (with_reducible repeat (first | refine blk_drewN ?_ _ | refine blk_drew ?_ | refine blk_alloc ?_ _)); exact BK734.out) hb); have n3_ := Aside0.mk (below_step (by repeat (first | (with_reducible first | exact HB.out | apply below_alloc | apply pw_below_drewN | apply below_drew1 | refine below_set ?_ GE733.out | refine below_set ?_ GE734.out) | exact HB.out)) hb); have n4_ := Aside0.mk (hbox); have n5_ := Aside0.mk ((by rw [hg]; exact (below_size (by repeat (first | (with_reducible first | exact HB.out | apply below_alloc | apply pw_below_drewN | apply below_drew1 | refine below_set ?_ GE733.out | refine below_set ?_ GE734.out) | exact HB.out))) : w.heap.size ≤ gb743)); have n6_ := Aside0.mk ((by rw [hg]; exact (below_size (by repeat (first | (with_reducible first | exact HB.out | apply below_alloc | apply pw_below_drewN | apply below_drew1 | refine below_set ?_ GE733.out | refine below_set ?_ GE734.out) | exact HB.out))) : w.heap.size ≤ gb743)); have n7_ := Aside0.mk ((by rw [hg]; exact Nat.ne_of_lt (blk_lt (g := gb733) (o := .cells #[.string a0_0, .int .i64 a0_1, .int .i64 a0_2, .int .i64 a0_3, .int .i64 a0_4, .int .i64 a0_5, .slice A0_6 l0_6.length c0_6, .slice A0_7 l0_7.length c0_7] 25 (0, 0)) (by (with_reducible repeat (first | refine blk_drewN ?_ _ | refine blk_drew ?_ | refine blk_alloc ?_ _)); exact BK733.out)) : gb733 ≠ gb743)); have n8_ := Aside0.mk ((by rw [hg]; exact Nat.ne_of_gt (blk_lt (g := gb733) (o := .cells #[.string a0_0, .int .i64 a0_1, .int .i64 a0_2, .int .i64 a0_3, .int .i64 a0_4, .int .i64 a0_5, .slice A0_6 l0_6.length c0_6, .slice A0_7 l0_7.length c0_7] 25 (0, 0)) (by (with_reducible repeat (first | refine blk_drewN ?_ _ | refine blk_drew ?_ | refine blk_alloc ?_ _)); exact BK733.out)) : gb743 ≠ gb733)); have n9_ := Aside0.mk ((by rw [hg]; exact Nat.ne_of_lt (blk_lt (g := gb734) (o := .cells #[.slice A1_0 l1_0.length c1_0] 30 (0, 0)) (by (with_reducible repeat (first | refine blk_drewN ?_ _ | refine blk_drew ?_ | refine blk_alloc ?_ _)); exact BK734.out)) : gb734 ≠ gb743)); have n10_ := Aside0.mk ((by rw [hg]; exact Nat.ne_of_gt (blk_lt (g := gb734) (o := .cells #[.slice A1_0 l1_0.length c1_0] 30 (0, 0)) (by (with_reducible repeat (first | refine blk_drewN ?_ _ | refine blk_drew ?_ | refine blk_alloc ?_ _)); exact BK734.out)) : gb743 ≠ gb734)); clear HO_5; clear BK733; clear BK734; clear HB; have HO_5 := n0_; have BK733 := n1_; have BK734 := n2_; have HB := n3_; have BK743 := n4_; have GW743 := n5_; have GE743 := n6_; have NB733_743 := n7_; have NB743_733 := n8_; have NB734_743 := n9_; have NB743_734 := n10_; clear n0_ n1_ n2_ n3_ n4_ n5_ n6_ n7_ n8_ n9_ n10_; clear hb hbox hg; have hnb37 := NB743_733.out; have hnc37 := NB733_743.out; have hnb38 := NB743_734.out; have hnc38 := NB734_743.out; obtain ⟨hcz39_0, hcz39_1, hcz39_2, hfz39_0, hfz39_1, hfz39_2⟩ := blk3_ BK743.out)))
        go_loopg [8, 9] k2 (fun kq v8 v9 w' => ∃ (x8_3 : Int) (x9_3 : Int), v8 = .int .i64 x8_3 ∧ v9 = .int .i64 x9_3 ∧ Aside0 (entrepotlaw11_FeasTold.l1 kq t739 x6_2 x8_3 x9_3 l1_0 ((rd_T37 t739 x6_2).f0) ((rd_T37 t739 x6_2).f1) ((rd_T37 t739 x6_2).f2) = some r) ∧ Aside0 (kq ≤ k2) ∧ Aside0 (Kd.R k37 37 w' w.heap.size (fun k_ => k_ ≠ gb743) (.slice (some ad742) t739.length co35) t739) ∧ Aside0 (w'.heap[gb733]? = some (.cells #[.string a0_0, .int .i64 a0_1, .int .i64 a0_2, .int .i64 a0_3, .int .i64 a0_4, .int .i64 a0_5, (.slice A0_6 l0_6.length c0_6), (.slice A0_7 l0_7.length c0_7)] 25 (0, 0))) ∧ Aside0 (w'.heap[gb734]? = some (.cells #[(.slice A1_0 l1_0.length c1_0)] 30 (0, 0))) ∧ Aside0 (w'.heap[gb743]? = some (.cells #[.int .i64 ((rd_T37 t739 x6_2).f0), .int .i64 ((rd_T37 t739 x6_2).f1), .int .i64 ((rd_T37 t739 x6_2).f2)] 37 (0, 0))) ∧ Aside0 (Below w.heap.size w w'))
        case atStart => exact ⟨(0), (0), (by first | rfl | (simp; done) | (simp [*]; done)), (by first | rfl | (simp; done) | (simp [*]; done)), H', ⟨Nat.le_refl _⟩, ⟨by (with_reducible repeat (first | apply Kd.R_alloc | apply Kd.R_drewN | apply Kd.R_drew)); exact Kd.R_mono (Kd.R_far (p := ⟨gb743, 2, none⟩) (Kd.R_far (p := ⟨gb743, 1, none⟩) (Kd.R_far (p := ⟨gb743, 0, none⟩) (Kd.R_mono HO_5.out (fun k_ hk => (⟨hk, hk.2⟩ : _ ∧ k_ ≠ gb743))) (fun _ hk => hk.2) (.int .i64 ((rd_T37 t739 x6_2).f0))) (fun _ hk => hk.2) (.int .i64 ((rd_T37 t739 x6_2).f1))) (fun _ hk => hk.2) (.int .i64 ((rd_T37 t739 x6_2).f2))) (fun _ hk => hk.1.2)⟩, ⟨by (with_reducible repeat (first | refine blk_drewN ?_ _ | refine blk_drew ?_ | refine blk_alloc ?_ _)); refine blk_far ?_ NB733_743.out _; (with_reducible repeat (first | refine blk_drewN ?_ _ | refine blk_drew ?_ | refine blk_alloc ?_ _)); refine blk_far ?_ NB733_743.out _; (with_reducible repeat (first | refine blk_drewN ?_ _ | refine blk_drew ?_ | refine blk_alloc ?_ _)); refine blk_far ?_ NB733_743.out _; (with_reducible repeat (first | refine blk_drewN ?_ _ | refine blk_drew ?_ | refine blk_alloc ?_ _)); exact BK733.out⟩, ⟨by (with_reducible repeat (first | refine blk_drewN ?_ _ | refine blk_drew ?_ | refine blk_alloc ?_ _)); refine blk_far ?_ NB734_743.out _; (with_reducible repeat (first | refine blk_drewN ?_ _ | refine blk_drew ?_ | refine blk_alloc ?_ _)); refine blk_far ?_ NB734_743.out _; (with_reducible repeat (first | refine blk_drewN ?_ _ | refine blk_drew ?_ | refine blk_alloc ?_ _)); refine blk_far ?_ NB734_743.out _; (with_reducible repeat (first | refine blk_drewN ?_ _ | refine blk_drew ?_ | refine blk_alloc ?_ _)); exact BK734.out⟩, ⟨by (with_reducible repeat (first | refine blk_drewN ?_ _ | refine blk_drew ?_ | refine blk_alloc ?_ _)); refine blk_put (cs := #[.int .i64 ((rd_T37 t739 x6_2).f0), .int .i64 ((rd_T37 t739 x6_2).f1), .int .i64 0]) ?_ 2 _ rfl; (with_reducible repeat (first | refine blk_drewN ?_ _ | refine blk_drew ?_ | refine blk_alloc ?_ _)); refine blk_put (cs := #[.int .i64 ((rd_T37 t739 x6_2).f0), .int .i64 0, .int .i64 0]) ?_ 1 _ rfl; (with_reducible repeat (first | refine blk_drewN ?_ _ | refine blk_drew ?_ | refine blk_alloc ?_ _)); refine blk_put (cs := #[.int .i64 0, .int .i64 0, .int .i64 0]) ?_ 0 _ rfl; (with_reducible repeat (first | refine blk_drewN ?_ _ | refine blk_drew ?_ | refine blk_alloc ?_ _)); exact BK743.out⟩, ⟨by repeat (first | (with_reducible first | exact HB.out | apply below_alloc | apply pw_below_drewN | apply below_drew1 | refine below_set ?_ GE733.out | refine below_set ?_ GE734.out | refine below_set ?_ GE743.out) | exact HB.out)⟩⟩
        case round =>
         clear H'
         (try clear c33); (try clear c33b0); (try clear c34); (try clear c34b0); (try clear hcz39_0); (try clear hcz39_1); (try clear hcz39_2); (try clear hfz39_0); (try clear hfz39_1); (try clear hfz39_2); (try clear hx742_0); (try clear hx742_1); (try clear hx742_2); (try clear p742); (try clear q742)
         obtain ⟨x8_3, x9_3, rfl, rfl, HA, HK3, HO_5, BK733, BK734, BK743, HB⟩ := hrel
         cases gk with
         | zero => exact absurd HA.out (by simp [entrepotlaw11_FeasTold.l1])
         | succ k3 =>
          have H := HA.out
          clear HA
          simp only [entrepotlaw11_FeasTold.l1] at H
          by_cases c40 : x9_3 < (l1_0.length : Int)
          ·rw [if_pos c40] at H
           have c40b0 : decide (x9_3 < (l1_0.length : Int)) = true := decide_eq_true c40
           clear c40
           have H' := Aside0.mk H
           clear H
           have hnb41 := NB734_733.out
           have hnc41 := NB733_734.out
           have hnb42 := NB734_743.out
           have hnc42 := NB743_734.out
           obtain ⟨hcz43_0, hfz43_0⟩ := blk1_ BK734.out
           go_wp2
           repeat (go_quiet (fail); try go_wp2)
           go_loopg [8, 10] k3 (fun kq v8 v10 w' => ∃ (x8_4 : Int) (x10_4 : Int), v8 = .int .i64 x8_4 ∧ v10 = .int .i64 x10_4 ∧ Aside0 (entrepotlaw11_FeasTold.l2 kq t739 x6_2 x8_4 x9_3 x10_4 l1_0 ((rd_T37 t739 x6_2).f0) ((rd_T37 t739 x6_2).f1) ((rd_T37 t739 x6_2).f2) = some r) ∧ Aside0 (kq ≤ k3) ∧ Aside0 (Kd.R k37 37 w' w.heap.size (fun k_ => k_ ≠ gb743) (.slice (some ad742) t739.length co35) t739) ∧ Aside0 (w'.heap[gb733]? = some (.cells #[.string a0_0, .int .i64 a0_1, .int .i64 a0_2, .int .i64 a0_3, .int .i64 a0_4, .int .i64 a0_5, (.slice A0_6 l0_6.length c0_6), (.slice A0_7 l0_7.length c0_7)] 25 (0, 0))) ∧ Aside0 (w'.heap[gb734]? = some (.cells #[(.slice A1_0 l1_0.length c1_0)] 30 (0, 0))) ∧ Aside0 (w'.heap[gb743]? = some (.cells #[.int .i64 ((rd_T37 t739 x6_2).f0), .int .i64 ((rd_T37 t739 x6_2).f1), .int .i64 ((rd_T37 t739 x6_2).f2)] 37 (0, 0))) ∧ Aside0 (Below w.heap.size w w'))
           case atStart => exact ⟨(x8_3), (0), (by first | rfl | (simp; done) | (simp [*]; done)), (by first | rfl | (simp; done) | (simp [*]; done)), H', ⟨Nat.le_refl _⟩, ⟨by (with_reducible repeat (first | apply Kd.R_alloc | apply Kd.R_drewN | apply Kd.R_drew)); exact HO_5.out⟩, ⟨by (with_reducible repeat (first | refine blk_drewN ?_ _ | refine blk_drew ?_ | refine blk_alloc ?_ _)); exact BK733.out⟩, ⟨by (with_reducible repeat (first | refine blk_drewN ?_ _ | refine blk_drew ?_ | refine blk_alloc ?_ _)); exact BK734.out⟩, ⟨by (with_reducible repeat (first | refine blk_drewN ?_ _ | refine blk_drew ?_ | refine blk_alloc ?_ _)); exact BK743.out⟩, ⟨by repeat (first | (with_reducible first | exact HB.out | apply below_alloc | apply pw_below_drewN | apply below_drew1 | refine below_set ?_ GE733.out | refine below_set ?_ GE734.out | refine below_set ?_ GE743.out) | exact HB.out)⟩⟩
           case round =>
            clear H'
            (try clear c40); (try clear c40b0); (try clear hcz43_0); (try clear hfz43_0)
            obtain ⟨x8_4, x10_4, rfl, rfl, HA, HK4, HO_5, BK733, BK734, BK743, HB⟩ := hrel
            cases gk with
            | zero => exact absurd HA.out (by simp [entrepotlaw11_FeasTold.l2])
            | succ k4 =>
             have H := HA.out
             clear HA
             simp only [entrepotlaw11_FeasTold.l2] at H
             by_cases c44 : 0 ≤ x9_3
             ·rw [if_pos c44] at H
              have c44b0 : decide (0 ≤ x9_3) = true := decide_eq_true c44
              clear c44
              by_cases c45 : x9_3 < (l1_0.length : Int)
              ·rw [if_pos c45] at H
               have c45b0 : decide (x9_3 < (l1_0.length : Int)) = true := decide_eq_true c45
               clear c45
               by_cases c46 : x10_4 < ((rd_L1 l1_0 x9_3).length : Int)
               ·rw [if_pos c46] at H
                have c46b0 : decide (x10_4 < ((rd_L1 l1_0 x9_3).length : Int)) = true := decide_eq_true c46
                clear c46
                by_cases c47 : 0 ≤ x10_4
                ·rw [if_pos c47] at H
                 have c47b0 : decide (0 ≤ x10_4) = true := decide_eq_true c47
                 clear c47
                 by_cases c48 : (rd (rd_L1 l1_0 x9_3) x10_4) = ((rd_T37 t739 x6_2).f2)
                 ·rw [if_pos c48] at H
                  have c48b0 : ((rd (rd_L1 l1_0 x9_3) x10_4) == ((rd_T37 t739 x6_2).f2)) = true := beq_iff_eq.mpr c48
                  have c48b1 : ((rd (rd_L1 l1_0 x9_3) x10_4) != ((rd_T37 t739 x6_2).f2)) = false := bne_eq_false_iff_eq.mpr c48
                  clear c48
                  by_cases c49 : ((rd_T37 t739 x6_2).f0) ≤ 3
                  ·rw [if_pos c49] at H
                   have c49b0 : decide (((rd_T37 t739 x6_2).f0) ≤ 3) = true := decide_eq_true c49
                   clear c49
                   by_cases c50 : ((rd_T37 t739 x6_2).f0) = 1
                   ·rw [if_pos c50] at H
                    have c50b0 : (((rd_T37 t739 x6_2).f0) == 1) = true := beq_iff_eq.mpr c50
                    have c50b1 : (((rd_T37 t739 x6_2).f0) != 1) = false := bne_eq_false_iff_eq.mpr c50
                    clear c50
                    by_cases c51 : x9_3 = ((rd_T37 t739 x6_2).f1)
                    ·rw [if_pos c51] at H
                     have c51b0 : (x9_3 == ((rd_T37 t739 x6_2).f1)) = true := beq_iff_eq.mpr c51
                     have c51b1 : (x9_3 != ((rd_T37 t739 x6_2).f1)) = false := bne_eq_false_iff_eq.mpr c51
                     clear c51
                     have H' := Aside0.mk H
                     clear H
                     have hnb52 := NB734_733.out
                     have hnc52 := NB733_734.out
                     have hnb53 := NB734_743.out
                     have hnc53 := NB743_734.out
                     obtain ⟨hcz54_0, hfz54_0⟩ := blk1_ BK734.out
                     have p744 : 0 ≤ (x9_3 : Int) := of_decide_eq_true (by first | (with_reducible assumption) | assumption)
                     have q744 : x9_3 < (l1_0.length : Int) := of_decide_eq_true (by first | (with_reducible assumption) | assumption)
                     obtain ⟨ad744, A744_0, c744_0, e744, hx744_0, hl744_0, hi744_0⟩ := at_L1 HR1_0.out x9_3 p744 q744
                     cases e744
                     replace hx744_0 := (HB.out.cell (World.block_lt_of_cell? w _ hx744_0)).trans hx744_0
                     have HR744_0 := Aside0.mk hi744_0
                     have HC744_0 := Aside0.mk hl744_0
                     clear hi744_0 hl744_0
                     replace p744 := eq_true p744
                     replace q744 := eq_true q744
                     have p745 : 0 ≤ (x9_3 : Int) := of_decide_eq_true (by first | (with_reducible assumption) | assumption)
                     have q745 : x9_3 < (l1_0.length : Int) := of_decide_eq_true (by first | (with_reducible assumption) | assumption)
                     obtain ⟨ad745, A745_0, c745_0, e745, hx745_0, hl745_0, hi745_0⟩ := at_L1 HR1_0.out x9_3 p745 q745
                     obtain rfl : ad744 = ad745 := (by injection e745)
                     replace hx745_0 := (HB.out.cell (World.block_lt_of_cell? w _ hx745_0)).trans hx745_0
                     have HR745_0 := Aside0.mk hi745_0
                     have HC745_0 := Aside0.mk hl745_0
                     clear hi745_0 hl745_0
                     replace p745 := eq_true p745
                     replace q745 := eq_true q745
                     have ea_ := Option.some.inj (hx744_0.symm.trans hx745_0)
                     injection ea_ with ea_ en_ ec_
                     subst ea_
                     subst ec_
                     clear en_
                     have p746 : 0 ≤ (x10_4 : Int) := of_decide_eq_true (by first | (with_reducible assumption) | assumption)
                     have q746 : x10_4 < ((rd_L1 l1_0 x9_3).length : Int) := of_decide_eq_true (by first | (with_reducible assumption) | assumption)
                     obtain ⟨ad746, e746, hx746_0⟩ := Kd.at_int HR745_0.out x10_4 p746 q746
                     cases e746
                     replace hx746_0 := (HB.out.cell (World.block_lt_of_cell? w _ hx746_0)).trans hx746_0
                     replace p746 := eq_true p746
                     replace q746 := eq_true q746
                     have hnb55 := NB743_733.out
                     have hnc55 := NB733_743.out
                     obtain ⟨hcz56_0, hcz56_1, hcz56_2, hfz56_0, hfz56_1, hfz56_2⟩ := blk3_ BK743.out
                     go_wp2
                     repeat (go_quiet (fail); try go_wp2)
                     go_roundg k4
                     case measure => have := HJ2.out; have := HK2.out; have := HK3.out; have := HK4.out; omega
                     case rel => exact ⟨(wrap64 (x8_4 + 1)), (wrap64 (x10_4 + 1)), (by first | rfl | (simp; done) | (simp [*]; done)), (by first | rfl | (simp; done) | (simp [*]; done)), H', ⟨by have := HJ2.out; have := HK2.out; have := HK3.out; have := HK4.out; omega⟩, ⟨by (with_reducible repeat (first | apply Kd.R_alloc | apply Kd.R_drewN | apply Kd.R_drew)); exact HO_5.out⟩, ⟨by (with_reducible repeat (first | refine blk_drewN ?_ _ | refine blk_drew ?_ | refine blk_alloc ?_ _)); exact BK733.out⟩, ⟨by (with_reducible repeat (first | refine blk_drewN ?_ _ | refine blk_drew ?_ | refine blk_alloc ?_ _)); exact BK734.out⟩, ⟨by (with_reducible repeat (first | refine blk_drewN ?_ _ | refine blk_drew ?_ | refine blk_alloc ?_ _)); exact BK743.out⟩, ⟨by repeat (first | (with_reducible first | exact HB.out | apply below_alloc | apply pw_below_drewN | apply below_drew1 | refine below_set ?_ GE733.out | refine below_set ?_ GE734.out | refine below_set ?_ GE743.out) | exact HB.out)⟩⟩
                    ·rw [if_neg c51] at H
                     have c51b0 : (x9_3 == ((rd_T37 t739 x6_2).f1)) = false := beq_eq_false_iff_ne.mpr c51
                     have c51b1 : (x9_3 != ((rd_T37 t739 x6_2).f1)) = true := bne_iff_ne.mpr c51
                     have H' := Aside0.mk H
                     clear H
                     have hnb57 := NB734_733.out
                     have hnc57 := NB733_734.out
                     have hnb58 := NB734_743.out
                     have hnc58 := NB743_734.out
                     obtain ⟨hcz59_0, hfz59_0⟩ := blk1_ BK734.out
                     have p744 : 0 ≤ (x9_3 : Int) := of_decide_eq_true (by first | (with_reducible assumption) | assumption)
                     have q744 : x9_3 < (l1_0.length : Int) := of_decide_eq_true (by first | (with_reducible assumption) | assumption)
                     obtain ⟨ad744, A744_0, c744_0, e744, hx744_0, hl744_0, hi744_0⟩ := at_L1 HR1_0.out x9_3 p744 q744
                     cases e744
                     replace hx744_0 := (HB.out.cell (World.block_lt_of_cell? w _ hx744_0)).trans hx744_0
                     have HR744_0 := Aside0.mk hi744_0
                     have HC744_0 := Aside0.mk hl744_0
                     clear hi744_0 hl744_0
                     replace p744 := eq_true p744
                     replace q744 := eq_true q744
                     have p745 : 0 ≤ (x9_3 : Int) := of_decide_eq_true (by first | (with_reducible assumption) | assumption)
                     have q745 : x9_3 < (l1_0.length : Int) := of_decide_eq_true (by first | (with_reducible assumption) | assumption)
                     obtain ⟨ad745, A745_0, c745_0, e745, hx745_0, hl745_0, hi745_0⟩ := at_L1 HR1_0.out x9_3 p745 q745
                     obtain rfl : ad744 = ad745 := (by injection e745)
                     replace hx745_0 := (HB.out.cell (World.block_lt_of_cell? w _ hx745_0)).trans hx745_0
                     have HR745_0 := Aside0.mk hi745_0
                     have HC745_0 := Aside0.mk hl745_0
                     clear hi745_0 hl745_0
                     replace p745 := eq_true p745
                     replace q745 := eq_true q745
                     have ea_ := Option.some.inj (hx744_0.symm.trans hx745_0)
                     injection ea_ with ea_ en_ ec_
                     subst ea_
                     subst ec_
                     clear en_
                     have p746 : 0 ≤ (x10_4 : Int) := of_decide_eq_true (by first | (with_reducible assumption) | assumption)
                     have q746 : x10_4 < ((rd_L1 l1_0 x9_3).length : Int) := of_decide_eq_true (by first | (with_reducible assumption) | assumption)
                     obtain ⟨ad746, e746, hx746_0⟩ := Kd.at_int HR745_0.out x10_4 p746 q746
                     cases e746
                     replace hx746_0 := (HB.out.cell (World.block_lt_of_cell? w _ hx746_0)).trans hx746_0
                     replace p746 := eq_true p746
                     replace q746 := eq_true q746
                     have hnb60 := NB743_733.out
                     have hnc60 := NB733_743.out
                     obtain ⟨hcz61_0, hcz61_1, hcz61_2, hfz61_0, hfz61_1, hfz61_2⟩ := blk3_ BK743.out
                     go_wp2
                     repeat (go_quiet (fail); try go_wp2)
                     go_roundg k4
                     case measure => have := HJ2.out; have := HK2.out; have := HK3.out; have := HK4.out; omega
                     case rel => exact ⟨(x8_4), (wrap64 (x10_4 + 1)), (by first | rfl | (simp; done) | (simp [*]; done)), (by first | rfl | (simp; done) | (simp [*]; done)), H', ⟨by have := HJ2.out; have := HK2.out; have := HK3.out; have := HK4.out; omega⟩, ⟨by (with_reducible repeat (first | apply Kd.R_alloc | apply Kd.R_drewN | apply Kd.R_drew)); exact HO_5.out⟩, ⟨by (with_reducible repeat (first | refine blk_drewN ?_ _ | refine blk_drew ?_ | refine blk_alloc ?_ _)); exact BK733.out⟩, ⟨by (with_reducible repeat (first | refine blk_drewN ?_ _ | refine blk_drew ?_ | refine blk_alloc ?_ _)); exact BK734.out⟩, ⟨by (with_reducible repeat (first | refine blk_drewN ?_ _ | refine blk_drew ?_ | refine blk_alloc ?_ _)); exact BK743.out⟩, ⟨by repeat (first | (with_reducible first | exact HB.out | apply below_alloc | apply pw_below_drewN | apply below_drew1 | refine below_set ?_ GE733.out | refine below_set ?_ GE734.out | refine below_set ?_ GE743.out) | exact HB.out)⟩⟩
                   ·rw [if_neg c50] at H
                    have c50b0 : (((rd_T37 t739 x6_2).f0) == 1) = false := beq_eq_false_iff_ne.mpr c50
                    have c50b1 : (((rd_T37 t739 x6_2).f0) != 1) = true := bne_iff_ne.mpr c50
                    have H' := Aside0.mk H
                    clear H
                    have hnb62 := NB734_733.out
                    have hnc62 := NB733_734.out
                    have hnb63 := NB734_743.out
                    have hnc63 := NB743_734.out
                    obtain ⟨hcz64_0, hfz64_0⟩ := blk1_ BK734.out
                    have p744 : 0 ≤ (x9_3 : Int) := of_decide_eq_true (by first | (with_reducible assumption) | assumption)
                    have q744 : x9_3 < (l1_0.length : Int) := of_decide_eq_true (by first | (with_reducible assumption) | assumption)
                    obtain ⟨ad744, A744_0, c744_0, e744, hx744_0, hl744_0, hi744_0⟩ := at_L1 HR1_0.out x9_3 p744 q744
                    cases e744
                    replace hx744_0 := (HB.out.cell (World.block_lt_of_cell? w _ hx744_0)).trans hx744_0
                    have HR744_0 := Aside0.mk hi744_0
                    have HC744_0 := Aside0.mk hl744_0
                    clear hi744_0 hl744_0
                    replace p744 := eq_true p744
                    replace q744 := eq_true q744
                    have p745 : 0 ≤ (x9_3 : Int) := of_decide_eq_true (by first | (with_reducible assumption) | assumption)
                    have q745 : x9_3 < (l1_0.length : Int) := of_decide_eq_true (by first | (with_reducible assumption) | assumption)
                    obtain ⟨ad745, A745_0, c745_0, e745, hx745_0, hl745_0, hi745_0⟩ := at_L1 HR1_0.out x9_3 p745 q745
                    obtain rfl : ad744 = ad745 := (by injection e745)
                    replace hx745_0 := (HB.out.cell (World.block_lt_of_cell? w _ hx745_0)).trans hx745_0
                    have HR745_0 := Aside0.mk hi745_0
                    have HC745_0 := Aside0.mk hl745_0
                    clear hi745_0 hl745_0
                    replace p745 := eq_true p745
                    replace q745 := eq_true q745
                    have ea_ := Option.some.inj (hx744_0.symm.trans hx745_0)
                    injection ea_ with ea_ en_ ec_
                    subst ea_
                    subst ec_
                    clear en_
                    have p746 : 0 ≤ (x10_4 : Int) := of_decide_eq_true (by first | (with_reducible assumption) | assumption)
                    have q746 : x10_4 < ((rd_L1 l1_0 x9_3).length : Int) := of_decide_eq_true (by first | (with_reducible assumption) | assumption)
                    obtain ⟨ad746, e746, hx746_0⟩ := Kd.at_int HR745_0.out x10_4 p746 q746
                    cases e746
                    replace hx746_0 := (HB.out.cell (World.block_lt_of_cell? w _ hx746_0)).trans hx746_0
                    replace p746 := eq_true p746
                    replace q746 := eq_true q746
                    have hnb65 := NB743_733.out
                    have hnc65 := NB733_743.out
                    obtain ⟨hcz66_0, hcz66_1, hcz66_2, hfz66_0, hfz66_1, hfz66_2⟩ := blk3_ BK743.out
                    go_wp2
                    repeat (go_quiet (fail); try go_wp2)
                    go_roundg k4
                    case measure => have := HJ2.out; have := HK2.out; have := HK3.out; have := HK4.out; omega
                    case rel => exact ⟨(wrap64 (x8_4 + 1)), (wrap64 (x10_4 + 1)), (by first | rfl | (simp; done) | (simp [*]; done)), (by first | rfl | (simp; done) | (simp [*]; done)), H', ⟨by have := HJ2.out; have := HK2.out; have := HK3.out; have := HK4.out; omega⟩, ⟨by (with_reducible repeat (first | apply Kd.R_alloc | apply Kd.R_drewN | apply Kd.R_drew)); exact HO_5.out⟩, ⟨by (with_reducible repeat (first | refine blk_drewN ?_ _ | refine blk_drew ?_ | refine blk_alloc ?_ _)); exact BK733.out⟩, ⟨by (with_reducible repeat (first | refine blk_drewN ?_ _ | refine blk_drew ?_ | refine blk_alloc ?_ _)); exact BK734.out⟩, ⟨by (with_reducible repeat (first | refine blk_drewN ?_ _ | refine blk_drew ?_ | refine blk_alloc ?_ _)); exact BK743.out⟩, ⟨by repeat (first | (with_reducible first | exact HB.out | apply below_alloc | apply pw_below_drewN | apply below_drew1 | refine below_set ?_ GE733.out | refine below_set ?_ GE734.out | refine below_set ?_ GE743.out) | exact HB.out)⟩⟩
                  ·rw [if_neg c49] at H
                   have c49b0 : decide (((rd_T37 t739 x6_2).f0) ≤ 3) = false := decide_eq_false c49
                   clear c49
                   by_cases c67 : x9_3 = ((rd_T37 t739 x6_2).f1)
                   ·rw [if_pos c67] at H
                    have c67b0 : (x9_3 == ((rd_T37 t739 x6_2).f1)) = true := beq_iff_eq.mpr c67
                    have c67b1 : (x9_3 != ((rd_T37 t739 x6_2).f1)) = false := bne_eq_false_iff_eq.mpr c67
                    clear c67
                    have H' := Aside0.mk H
                    clear H
                    have hnb68 := NB734_733.out
                    have hnc68 := NB733_734.out
                    have hnb69 := NB734_743.out
                    have hnc69 := NB743_734.out
                    obtain ⟨hcz70_0, hfz70_0⟩ := blk1_ BK734.out
                    have p744 : 0 ≤ (x9_3 : Int) := of_decide_eq_true (by first | (with_reducible assumption) | assumption)
                    have q744 : x9_3 < (l1_0.length : Int) := of_decide_eq_true (by first | (with_reducible assumption) | assumption)
                    obtain ⟨ad744, A744_0, c744_0, e744, hx744_0, hl744_0, hi744_0⟩ := at_L1 HR1_0.out x9_3 p744 q744
                    cases e744
                    replace hx744_0 := (HB.out.cell (World.block_lt_of_cell? w _ hx744_0)).trans hx744_0
                    have HR744_0 := Aside0.mk hi744_0
                    have HC744_0 := Aside0.mk hl744_0
                    clear hi744_0 hl744_0
                    replace p744 := eq_true p744
                    replace q744 := eq_true q744
                    have p745 : 0 ≤ (x9_3 : Int) := of_decide_eq_true (by first | (with_reducible assumption) | assumption)
                    have q745 : x9_3 < (l1_0.length : Int) := of_decide_eq_true (by first | (with_reducible assumption) | assumption)
                    obtain ⟨ad745, A745_0, c745_0, e745, hx745_0, hl745_0, hi745_0⟩ := at_L1 HR1_0.out x9_3 p745 q745
                    obtain rfl : ad744 = ad745 := (by injection e745)
                    replace hx745_0 := (HB.out.cell (World.block_lt_of_cell? w _ hx745_0)).trans hx745_0
                    have HR745_0 := Aside0.mk hi745_0
                    have HC745_0 := Aside0.mk hl745_0
                    clear hi745_0 hl745_0
                    replace p745 := eq_true p745
                    replace q745 := eq_true q745
                    have ea_ := Option.some.inj (hx744_0.symm.trans hx745_0)
                    injection ea_ with ea_ en_ ec_
                    subst ea_
                    subst ec_
                    clear en_
                    have p746 : 0 ≤ (x10_4 : Int) := of_decide_eq_true (by first | (with_reducible assumption) | assumption)
                    have q746 : x10_4 < ((rd_L1 l1_0 x9_3).length : Int) := of_decide_eq_true (by first | (with_reducible assumption) | assumption)
                    obtain ⟨ad746, e746, hx746_0⟩ := Kd.at_int HR745_0.out x10_4 p746 q746
                    cases e746
                    replace hx746_0 := (HB.out.cell (World.block_lt_of_cell? w _ hx746_0)).trans hx746_0
                    replace p746 := eq_true p746
                    replace q746 := eq_true q746
                    have hnb71 := NB743_733.out
                    have hnc71 := NB733_743.out
                    obtain ⟨hcz72_0, hcz72_1, hcz72_2, hfz72_0, hfz72_1, hfz72_2⟩ := blk3_ BK743.out
                    go_wp2
                    repeat (go_quiet (fail); try go_wp2)
                    go_roundg k4
                    case measure => have := HJ2.out; have := HK2.out; have := HK3.out; have := HK4.out; omega
                    case rel => exact ⟨(wrap64 (x8_4 + 1)), (wrap64 (x10_4 + 1)), (by first | rfl | (simp; done) | (simp [*]; done)), (by first | rfl | (simp; done) | (simp [*]; done)), H', ⟨by have := HJ2.out; have := HK2.out; have := HK3.out; have := HK4.out; omega⟩, ⟨by (with_reducible repeat (first | apply Kd.R_alloc | apply Kd.R_drewN | apply Kd.R_drew)); exact HO_5.out⟩, ⟨by (with_reducible repeat (first | refine blk_drewN ?_ _ | refine blk_drew ?_ | refine blk_alloc ?_ _)); exact BK733.out⟩, ⟨by (with_reducible repeat (first | refine blk_drewN ?_ _ | refine blk_drew ?_ | refine blk_alloc ?_ _)); exact BK734.out⟩, ⟨by (with_reducible repeat (first | refine blk_drewN ?_ _ | refine blk_drew ?_ | refine blk_alloc ?_ _)); exact BK743.out⟩, ⟨by repeat (first | (with_reducible first | exact HB.out | apply below_alloc | apply pw_below_drewN | apply below_drew1 | refine below_set ?_ GE733.out | refine below_set ?_ GE734.out | refine below_set ?_ GE743.out) | exact HB.out)⟩⟩
                   ·rw [if_neg c67] at H
                    have c67b0 : (x9_3 == ((rd_T37 t739 x6_2).f1)) = false := beq_eq_false_iff_ne.mpr c67
                    have c67b1 : (x9_3 != ((rd_T37 t739 x6_2).f1)) = true := bne_iff_ne.mpr c67
                    have H' := Aside0.mk H
                    clear H
                    have hnb73 := NB734_733.out
                    have hnc73 := NB733_734.out
                    have hnb74 := NB734_743.out
                    have hnc74 := NB743_734.out
                    obtain ⟨hcz75_0, hfz75_0⟩ := blk1_ BK734.out
                    have p744 : 0 ≤ (x9_3 : Int) := of_decide_eq_true (by first | (with_reducible assumption) | assumption)
                    have q744 : x9_3 < (l1_0.length : Int) := of_decide_eq_true (by first | (with_reducible assumption) | assumption)
                    obtain ⟨ad744, A744_0, c744_0, e744, hx744_0, hl744_0, hi744_0⟩ := at_L1 HR1_0.out x9_3 p744 q744
                    cases e744
                    replace hx744_0 := (HB.out.cell (World.block_lt_of_cell? w _ hx744_0)).trans hx744_0
                    have HR744_0 := Aside0.mk hi744_0
                    have HC744_0 := Aside0.mk hl744_0
                    clear hi744_0 hl744_0
                    replace p744 := eq_true p744
                    replace q744 := eq_true q744
                    have p745 : 0 ≤ (x9_3 : Int) := of_decide_eq_true (by first | (with_reducible assumption) | assumption)
                    have q745 : x9_3 < (l1_0.length : Int) := of_decide_eq_true (by first | (with_reducible assumption) | assumption)
                    obtain ⟨ad745, A745_0, c745_0, e745, hx745_0, hl745_0, hi745_0⟩ := at_L1 HR1_0.out x9_3 p745 q745
                    obtain rfl : ad744 = ad745 := (by injection e745)
                    replace hx745_0 := (HB.out.cell (World.block_lt_of_cell? w _ hx745_0)).trans hx745_0
                    have HR745_0 := Aside0.mk hi745_0
                    have HC745_0 := Aside0.mk hl745_0
                    clear hi745_0 hl745_0
                    replace p745 := eq_true p745
                    replace q745 := eq_true q745
                    have ea_ := Option.some.inj (hx744_0.symm.trans hx745_0)
                    injection ea_ with ea_ en_ ec_
                    subst ea_
                    subst ec_
                    clear en_
                    have p746 : 0 ≤ (x10_4 : Int) := of_decide_eq_true (by first | (with_reducible assumption) | assumption)
                    have q746 : x10_4 < ((rd_L1 l1_0 x9_3).length : Int) := of_decide_eq_true (by first | (with_reducible assumption) | assumption)
                    obtain ⟨ad746, e746, hx746_0⟩ := Kd.at_int HR745_0.out x10_4 p746 q746
                    cases e746
                    replace hx746_0 := (HB.out.cell (World.block_lt_of_cell? w _ hx746_0)).trans hx746_0
                    replace p746 := eq_true p746
                    replace q746 := eq_true q746
                    have hnb76 := NB743_733.out
                    have hnc76 := NB733_743.out
                    obtain ⟨hcz77_0, hcz77_1, hcz77_2, hfz77_0, hfz77_1, hfz77_2⟩ := blk3_ BK743.out
                    go_wp2
                    repeat (go_quiet (fail); try go_wp2)
                    go_roundg k4
                    case measure => have := HJ2.out; have := HK2.out; have := HK3.out; have := HK4.out; omega
                    case rel => exact ⟨(x8_4), (wrap64 (x10_4 + 1)), (by first | rfl | (simp; done) | (simp [*]; done)), (by first | rfl | (simp; done) | (simp [*]; done)), H', ⟨by have := HJ2.out; have := HK2.out; have := HK3.out; have := HK4.out; omega⟩, ⟨by (with_reducible repeat (first | apply Kd.R_alloc | apply Kd.R_drewN | apply Kd.R_drew)); exact HO_5.out⟩, ⟨by (with_reducible repeat (first | refine blk_drewN ?_ _ | refine blk_drew ?_ | refine blk_alloc ?_ _)); exact BK733.out⟩, ⟨by (with_reducible repeat (first | refine blk_drewN ?_ _ | refine blk_drew ?_ | refine blk_alloc ?_ _)); exact BK734.out⟩, ⟨by (with_reducible repeat (first | refine blk_drewN ?_ _ | refine blk_drew ?_ | refine blk_alloc ?_ _)); exact BK743.out⟩, ⟨by repeat (first | (with_reducible first | exact HB.out | apply below_alloc | apply pw_below_drewN | apply below_drew1 | refine below_set ?_ GE733.out | refine below_set ?_ GE734.out | refine below_set ?_ GE743.out) | exact HB.out)⟩⟩
                 ·rw [if_neg c48] at H
                  have c48b0 : ((rd (rd_L1 l1_0 x9_3) x10_4) == ((rd_T37 t739 x6_2).f2)) = false := beq_eq_false_iff_ne.mpr c48
                  have c48b1 : ((rd (rd_L1 l1_0 x9_3) x10_4) != ((rd_T37 t739 x6_2).f2)) = true := bne_iff_ne.mpr c48
                  have H' := Aside0.mk H
                  clear H
                  have hnb78 := NB734_733.out
                  have hnc78 := NB733_734.out
                  have hnb79 := NB734_743.out
                  have hnc79 := NB743_734.out
                  obtain ⟨hcz80_0, hfz80_0⟩ := blk1_ BK734.out
                  have p744 : 0 ≤ (x9_3 : Int) := of_decide_eq_true (by first | (with_reducible assumption) | assumption)
                  have q744 : x9_3 < (l1_0.length : Int) := of_decide_eq_true (by first | (with_reducible assumption) | assumption)
                  obtain ⟨ad744, A744_0, c744_0, e744, hx744_0, hl744_0, hi744_0⟩ := at_L1 HR1_0.out x9_3 p744 q744
                  cases e744
                  replace hx744_0 := (HB.out.cell (World.block_lt_of_cell? w _ hx744_0)).trans hx744_0
                  have HR744_0 := Aside0.mk hi744_0
                  have HC744_0 := Aside0.mk hl744_0
                  clear hi744_0 hl744_0
                  replace p744 := eq_true p744
                  replace q744 := eq_true q744
                  have p745 : 0 ≤ (x9_3 : Int) := of_decide_eq_true (by first | (with_reducible assumption) | assumption)
                  have q745 : x9_3 < (l1_0.length : Int) := of_decide_eq_true (by first | (with_reducible assumption) | assumption)
                  obtain ⟨ad745, A745_0, c745_0, e745, hx745_0, hl745_0, hi745_0⟩ := at_L1 HR1_0.out x9_3 p745 q745
                  obtain rfl : ad744 = ad745 := (by injection e745)
                  replace hx745_0 := (HB.out.cell (World.block_lt_of_cell? w _ hx745_0)).trans hx745_0
                  have HR745_0 := Aside0.mk hi745_0
                  have HC745_0 := Aside0.mk hl745_0
                  clear hi745_0 hl745_0
                  replace p745 := eq_true p745
                  replace q745 := eq_true q745
                  have ea_ := Option.some.inj (hx744_0.symm.trans hx745_0)
                  injection ea_ with ea_ en_ ec_
                  subst ea_
                  subst ec_
                  clear en_
                  have p746 : 0 ≤ (x10_4 : Int) := of_decide_eq_true (by first | (with_reducible assumption) | assumption)
                  have q746 : x10_4 < ((rd_L1 l1_0 x9_3).length : Int) := of_decide_eq_true (by first | (with_reducible assumption) | assumption)
                  obtain ⟨ad746, e746, hx746_0⟩ := Kd.at_int HR745_0.out x10_4 p746 q746
                  cases e746
                  replace hx746_0 := (HB.out.cell (World.block_lt_of_cell? w _ hx746_0)).trans hx746_0
                  replace p746 := eq_true p746
                  replace q746 := eq_true q746
                  have hnb81 := NB743_733.out
                  have hnc81 := NB733_743.out
                  obtain ⟨hcz82_0, hcz82_1, hcz82_2, hfz82_0, hfz82_1, hfz82_2⟩ := blk3_ BK743.out
                  go_wp2
                  repeat (go_quiet (fail); try go_wp2)
                  go_roundg k4
                  case measure => have := HJ2.out; have := HK2.out; have := HK3.out; have := HK4.out; omega
                  case rel => exact ⟨(x8_4), (wrap64 (x10_4 + 1)), (by first | rfl | (simp; done) | (simp [*]; done)), (by first | rfl | (simp; done) | (simp [*]; done)), H', ⟨by have := HJ2.out; have := HK2.out; have := HK3.out; have := HK4.out; omega⟩, ⟨by (with_reducible repeat (first | apply Kd.R_alloc | apply Kd.R_drewN | apply Kd.R_drew)); exact HO_5.out⟩, ⟨by (with_reducible repeat (first | refine blk_drewN ?_ _ | refine blk_drew ?_ | refine blk_alloc ?_ _)); exact BK733.out⟩, ⟨by (with_reducible repeat (first | refine blk_drewN ?_ _ | refine blk_drew ?_ | refine blk_alloc ?_ _)); exact BK734.out⟩, ⟨by (with_reducible repeat (first | refine blk_drewN ?_ _ | refine blk_drew ?_ | refine blk_alloc ?_ _)); exact BK743.out⟩, ⟨by repeat (first | (with_reducible first | exact HB.out | apply below_alloc | apply pw_below_drewN | apply below_drew1 | refine below_set ?_ GE733.out | refine below_set ?_ GE734.out | refine below_set ?_ GE743.out) | exact HB.out)⟩⟩
                ·rw [if_neg c47] at H
                 exact absurd H (by simp)
               ·rw [if_neg c46] at H
                have c46b0 : decide (x10_4 < ((rd_L1 l1_0 x9_3).length : Int)) = false := decide_eq_false c46
                clear c46
                have H' := Aside0.mk H
                clear H
                have hnb83 := NB734_733.out
                have hnc83 := NB733_734.out
                have hnb84 := NB734_743.out
                have hnc84 := NB743_734.out
                obtain ⟨hcz85_0, hfz85_0⟩ := blk1_ BK734.out
                have p744 : 0 ≤ (x9_3 : Int) := of_decide_eq_true (by first | (with_reducible assumption) | assumption)
                have q744 : x9_3 < (l1_0.length : Int) := of_decide_eq_true (by first | (with_reducible assumption) | assumption)
                obtain ⟨ad744, A744_0, c744_0, e744, hx744_0, hl744_0, hi744_0⟩ := at_L1 HR1_0.out x9_3 p744 q744
                cases e744
                replace hx744_0 := (HB.out.cell (World.block_lt_of_cell? w _ hx744_0)).trans hx744_0
                have HR744_0 := Aside0.mk hi744_0
                have HC744_0 := Aside0.mk hl744_0
                clear hi744_0 hl744_0
                replace p744 := eq_true p744
                replace q744 := eq_true q744
                go_wp2
                repeat (go_quiet (fail); try go_wp2)
                go_roundg k4
                case measure => have := HJ2.out; have := HK2.out; have := HK3.out; have := HK4.out; omega
                case rel => exact ⟨(x8_4), (wrap64 (x9_3 + 1)), (by first | rfl | (simp; done) | (simp [*]; done)), (by first | rfl | (simp; done) | (simp [*]; done)), H', ⟨by have := HJ2.out; have := HK2.out; have := HK3.out; have := HK4.out; omega⟩, ⟨by (with_reducible repeat (first | apply Kd.R_alloc | apply Kd.R_drewN | apply Kd.R_drew)); exact HO_5.out⟩, ⟨by (with_reducible repeat (first | refine blk_drewN ?_ _ | refine blk_drew ?_ | refine blk_alloc ?_ _)); exact BK733.out⟩, ⟨by (with_reducible repeat (first | refine blk_drewN ?_ _ | refine blk_drew ?_ | refine blk_alloc ?_ _)); exact BK734.out⟩, ⟨by (with_reducible repeat (first | refine blk_drewN ?_ _ | refine blk_drew ?_ | refine blk_alloc ?_ _)); exact BK743.out⟩, ⟨by repeat (first | (with_reducible first | exact HB.out | apply below_alloc | apply pw_below_drewN | apply below_drew1 | refine below_set ?_ GE733.out | refine below_set ?_ GE734.out | refine below_set ?_ GE743.out) | exact HB.out)⟩⟩
              ·rw [if_neg c45] at H
               exact absurd H (by simp)
             ·rw [if_neg c44] at H
              exact absurd H (by simp)
          ·rw [if_neg c40] at H
           have c40b0 : decide (x9_3 < (l1_0.length : Int)) = false := decide_eq_false c40
           clear c40
           have HC86 := Aside0.mk H
           clear H
           have hnb87 := NB734_733.out
           have hnc87 := NB733_734.out
           have hnb88 := NB734_743.out
           have hnc88 := NB743_734.out
           obtain ⟨hcz89_0, hfz89_0⟩ := blk1_ BK734.out
           go_upto_region 17 with (fail)
           repeat (go_quiet (fail); go_upto_region 17 with (fail))
           go_cut [11] (fun v11 wc => ∃ (kq : Nat) (x11_85 : Bool), v11 = .bool x11_85 ∧ Aside0 (entrepotlaw11_FeasTold.j4 kq t739 x6_2 x8_3 x11_85 l1_0 ((rd_T37 t739 x6_2).f0) ((rd_T37 t739 x6_2).f1) ((rd_T37 t739 x6_2).f2) = some r) ∧ Aside0 (kq ≤ k3) ∧ Aside0 (Kd.R k37 37 wc w.heap.size (fun k_ => k_ ≠ gb743) (.slice (some ad742) t739.length co35) t739) ∧ Aside0 (wc.heap[gb733]? = some (.cells #[.string a0_0, .int .i64 a0_1, .int .i64 a0_2, .int .i64 a0_3, .int .i64 a0_4, .int .i64 a0_5, (.slice A0_6 l0_6.length c0_6), (.slice A0_7 l0_7.length c0_7)] 25 (0, 0))) ∧ Aside0 (wc.heap[gb734]? = some (.cells #[(.slice A1_0 l1_0.length c1_0)] 30 (0, 0))) ∧ Aside0 (wc.heap[gb743]? = some (.cells #[.int .i64 ((rd_T37 t739 x6_2).f0), .int .i64 ((rd_T37 t739 x6_2).f1), .int .i64 ((rd_T37 t739 x6_2).f2)] 37 (0, 0))) ∧ Aside0 (Below w.heap.size w wc))
           case first => as_aux_lemma =>
            have H := HC86.out
            clear HC86
            by_cases c90 : ((rd_T37 t739 x6_2).f0) = 6
            ·rw [if_pos c90] at H
             have c90b0 : (((rd_T37 t739 x6_2).f0) == 6) = true := beq_iff_eq.mpr c90
             have c90b1 : (((rd_T37 t739 x6_2).f0) != 6) = false := bne_eq_false_iff_eq.mpr c90
             clear c90
             (first | rw [c90b0] | (simp only [i64_w, i32_w]; rw [c90b0]) | skip)
             have H' := Aside0.mk H
             clear H
             have hnb91 := NB743_733.out
             have hnc91 := NB733_743.out
             have hnb92 := NB743_734.out
             have hnc92 := NB734_743.out
             obtain ⟨hcz93_0, hcz93_1, hcz93_2, hfz93_0, hfz93_1, hfz93_2⟩ := blk3_ BK743.out
             go_wp2
             repeat (go_quiet (fail); try go_wp2)
             go_meet
             case rel => exact ⟨_, ((((rd_T37 t739 x6_2).f2) == 0)), (by first | rfl | (simp; done) | (simp [*]; done)), H', ⟨by have := HJ2.out; have := HK2.out; have := HK3.out; first | omega | exact Nat.le_refl _⟩, ⟨by (with_reducible repeat (first | apply Kd.R_alloc | apply Kd.R_drewN | apply Kd.R_drew)); exact HO_5.out⟩, ⟨by (with_reducible repeat (first | refine blk_drewN ?_ _ | refine blk_drew ?_ | refine blk_alloc ?_ _)); exact BK733.out⟩, ⟨by (with_reducible repeat (first | refine blk_drewN ?_ _ | refine blk_drew ?_ | refine blk_alloc ?_ _)); exact BK734.out⟩, ⟨by (with_reducible repeat (first | refine blk_drewN ?_ _ | refine blk_drew ?_ | refine blk_alloc ?_ _)); exact BK743.out⟩, ⟨by repeat (first | (with_reducible first | exact HB.out | apply below_alloc | apply pw_below_drewN | apply below_drew1 | refine below_set ?_ GE733.out | refine below_set ?_ GE734.out | refine below_set ?_ GE743.out) | exact HB.out)⟩⟩
            ·rw [if_neg c90] at H
             have c90b0 : (((rd_T37 t739 x6_2).f0) == 6) = false := beq_eq_false_iff_ne.mpr c90
             have c90b1 : (((rd_T37 t739 x6_2).f0) != 6) = true := bne_iff_ne.mpr c90
             (first | rw [c90b0] | (simp only [i64_w, i32_w]; rw [c90b0]) | skip)
             have H' := Aside0.mk H
             clear H
             have hnb94 := NB743_733.out
             have hnc94 := NB733_743.out
             have hnb95 := NB743_734.out
             have hnc95 := NB734_743.out
             obtain ⟨hcz96_0, hcz96_1, hcz96_2, hfz96_0, hfz96_1, hfz96_2⟩ := blk3_ BK743.out
             go_wp2
             repeat (go_quiet (fail); try go_wp2)
             go_meet
             case rel => exact ⟨_, (false), (by first | rfl | (simp; done) | (simp [*]; done)), H', ⟨by have := HJ2.out; have := HK2.out; have := HK3.out; first | omega | exact Nat.le_refl _⟩, ⟨by (with_reducible repeat (first | apply Kd.R_alloc | apply Kd.R_drewN | apply Kd.R_drew)); exact HO_5.out⟩, ⟨by (with_reducible repeat (first | refine blk_drewN ?_ _ | refine blk_drew ?_ | refine blk_alloc ?_ _)); exact BK733.out⟩, ⟨by (with_reducible repeat (first | refine blk_drewN ?_ _ | refine blk_drew ?_ | refine blk_alloc ?_ _)); exact BK734.out⟩, ⟨by (with_reducible repeat (first | refine blk_drewN ?_ _ | refine blk_drew ?_ | refine blk_alloc ?_ _)); exact BK743.out⟩, ⟨by repeat (first | (with_reducible first | exact HB.out | apply below_alloc | apply pw_below_drewN | apply below_drew1 | refine below_set ?_ GE733.out | refine below_set ?_ GE734.out | refine below_set ?_ GE743.out) | exact HB.out)⟩⟩
           case rest => as_aux_lemma =>
            clear HC86
            (try clear c40); (try clear c40b0); (try clear hcz89_0); (try clear hfz89_0)
            obtain ⟨kq, x11_85, rfl, HA, HJ85, HO_5, BK733, BK734, BK743, HB⟩ := hcut
            cases kq with
            | zero => exact absurd HA.out (by simp [entrepotlaw11_FeasTold.j4])
            | succ kj85 =>
             have H := HA.out
             clear HA
             simp only [entrepotlaw11_FeasTold.j4] at H
             have HC97 := Aside0.mk H
             clear H
             go_upto_region 18 with (fail)
             repeat (go_quiet (fail); go_upto_region 18 with (fail))
             go_cut [140] (fun v140 wc => ∃ (kq : Nat) (x140_96 : Bool), v140 = .bool x140_96 ∧ Aside0 (entrepotlaw11_FeasTold.j5 kq t739 x6_2 x140_96 l1_0 ((rd_T37 t739 x6_2).f0) ((rd_T37 t739 x6_2).f1) ((rd_T37 t739 x6_2).f2) = some r) ∧ Aside0 (kq ≤ kj85) ∧ Aside0 (Kd.R k37 37 wc w.heap.size (fun k_ => k_ ≠ gb743) (.slice (some ad742) t739.length co35) t739) ∧ Aside0 (wc.heap[gb733]? = some (.cells #[.string a0_0, .int .i64 a0_1, .int .i64 a0_2, .int .i64 a0_3, .int .i64 a0_4, .int .i64 a0_5, (.slice A0_6 l0_6.length c0_6), (.slice A0_7 l0_7.length c0_7)] 25 (0, 0))) ∧ Aside0 (wc.heap[gb734]? = some (.cells #[(.slice A1_0 l1_0.length c1_0)] 30 (0, 0))) ∧ Aside0 (wc.heap[gb743]? = some (.cells #[.int .i64 ((rd_T37 t739 x6_2).f0), .int .i64 ((rd_T37 t739 x6_2).f1), .int .i64 ((rd_T37 t739 x6_2).f2)] 37 (0, 0))) ∧ Aside0 (Below w.heap.size w wc))
             case first => as_aux_lemma =>
              have H := HC97.out
              clear HC97
              by_cases c98 : ((rd_T37 t739 x6_2).f0) < 1
              ·rw [if_pos c98] at H
               have c98b0 : decide (((rd_T37 t739 x6_2).f0) < 1) = true := decide_eq_true c98
               clear c98
               (first | rw [c98b0] | (simp only [i64_w, i32_w]; rw [c98b0]) | skip)
               have H' := Aside0.mk H
               clear H
               have hnb99 := NB743_733.out
               have hnc99 := NB733_743.out
               have hnb100 := NB743_734.out
               have hnc100 := NB734_743.out
               obtain ⟨hcz101_0, hcz101_1, hcz101_2, hfz101_0, hfz101_1, hfz101_2⟩ := blk3_ BK743.out
               go_wp2
               repeat (go_quiet (fail); try go_wp2)
               go_meet
               case rel => exact ⟨_, (true), (by first | rfl | (simp; done) | (simp [*]; done)), H', ⟨by have := HJ2.out; have := HK2.out; have := HK3.out; have := HJ85.out; first | omega | exact Nat.le_refl _⟩, ⟨by (with_reducible repeat (first | apply Kd.R_alloc | apply Kd.R_drewN | apply Kd.R_drew)); exact HO_5.out⟩, ⟨by (with_reducible repeat (first | refine blk_drewN ?_ _ | refine blk_drew ?_ | refine blk_alloc ?_ _)); exact BK733.out⟩, ⟨by (with_reducible repeat (first | refine blk_drewN ?_ _ | refine blk_drew ?_ | refine blk_alloc ?_ _)); exact BK734.out⟩, ⟨by (with_reducible repeat (first | refine blk_drewN ?_ _ | refine blk_drew ?_ | refine blk_alloc ?_ _)); exact BK743.out⟩, ⟨by repeat (first | (with_reducible first | exact HB.out | apply below_alloc | apply pw_below_drewN | apply below_drew1 | refine below_set ?_ GE733.out | refine below_set ?_ GE734.out | refine below_set ?_ GE743.out) | exact HB.out)⟩⟩
              ·rw [if_neg c98] at H
               have c98b0 : decide (((rd_T37 t739 x6_2).f0) < 1) = false := decide_eq_false c98
               clear c98
               (first | rw [c98b0] | (simp only [i64_w, i32_w]; rw [c98b0]) | skip)
               by_cases c102 : ((rd_T37 t739 x6_2).f0) > 8
               ·rw [if_pos c102] at H
                have c102b0 : decide (8 < ((rd_T37 t739 x6_2).f0)) = true := decide_eq_true c102
                clear c102
                have H' := Aside0.mk H
                clear H
                have hnb103 := NB743_733.out
                have hnc103 := NB733_743.out
                have hnb104 := NB743_734.out
                have hnc104 := NB734_743.out
                obtain ⟨hcz105_0, hcz105_1, hcz105_2, hfz105_0, hfz105_1, hfz105_2⟩ := blk3_ BK743.out
                go_wp2
                repeat (go_quiet (fail); try go_wp2)
                go_meet
                case rel => exact ⟨_, (true), (by first | rfl | (simp; done) | (simp [*]; done)), H', ⟨by have := HJ2.out; have := HK2.out; have := HK3.out; have := HJ85.out; first | omega | exact Nat.le_refl _⟩, ⟨by (with_reducible repeat (first | apply Kd.R_alloc | apply Kd.R_drewN | apply Kd.R_drew)); exact HO_5.out⟩, ⟨by (with_reducible repeat (first | refine blk_drewN ?_ _ | refine blk_drew ?_ | refine blk_alloc ?_ _)); exact BK733.out⟩, ⟨by (with_reducible repeat (first | refine blk_drewN ?_ _ | refine blk_drew ?_ | refine blk_alloc ?_ _)); exact BK734.out⟩, ⟨by (with_reducible repeat (first | refine blk_drewN ?_ _ | refine blk_drew ?_ | refine blk_alloc ?_ _)); exact BK743.out⟩, ⟨by repeat (first | (with_reducible first | exact HB.out | apply below_alloc | apply pw_below_drewN | apply below_drew1 | refine below_set ?_ GE733.out | refine below_set ?_ GE734.out | refine below_set ?_ GE743.out) | exact HB.out)⟩⟩
               ·rw [if_neg c102] at H
                have c102b0 : decide (8 < ((rd_T37 t739 x6_2).f0)) = false := decide_eq_false c102
                clear c102
                by_cases c106 : ((rd_T37 t739 x6_2).f1) < 0
                ·rw [if_pos c106] at H
                 have c106b0 : decide (((rd_T37 t739 x6_2).f1) < 0) = true := decide_eq_true c106
                 clear c106
                 have H' := Aside0.mk H
                 clear H
                 have hnb107 := NB743_733.out
                 have hnc107 := NB733_743.out
                 have hnb108 := NB743_734.out
                 have hnc108 := NB734_743.out
                 obtain ⟨hcz109_0, hcz109_1, hcz109_2, hfz109_0, hfz109_1, hfz109_2⟩ := blk3_ BK743.out
                 go_wp2
                 repeat (go_quiet (fail); try go_wp2)
                 go_meet
                 case rel => exact ⟨_, (true), (by first | rfl | (simp; done) | (simp [*]; done)), H', ⟨by have := HJ2.out; have := HK2.out; have := HK3.out; have := HJ85.out; first | omega | exact Nat.le_refl _⟩, ⟨by (with_reducible repeat (first | apply Kd.R_alloc | apply Kd.R_drewN | apply Kd.R_drew)); exact HO_5.out⟩, ⟨by (with_reducible repeat (first | refine blk_drewN ?_ _ | refine blk_drew ?_ | refine blk_alloc ?_ _)); exact BK733.out⟩, ⟨by (with_reducible repeat (first | refine blk_drewN ?_ _ | refine blk_drew ?_ | refine blk_alloc ?_ _)); exact BK734.out⟩, ⟨by (with_reducible repeat (first | refine blk_drewN ?_ _ | refine blk_drew ?_ | refine blk_alloc ?_ _)); exact BK743.out⟩, ⟨by repeat (first | (with_reducible first | exact HB.out | apply below_alloc | apply pw_below_drewN | apply below_drew1 | refine below_set ?_ GE733.out | refine below_set ?_ GE734.out | refine below_set ?_ GE743.out) | exact HB.out)⟩⟩
                ·rw [if_neg c106] at H
                 have c106b0 : decide (((rd_T37 t739 x6_2).f1) < 0) = false := decide_eq_false c106
                 clear c106
                 by_cases c110 : ((rd_T37 t739 x6_2).f0) = 3
                 ·rw [if_pos c110] at H
                  have c110b0 : (((rd_T37 t739 x6_2).f0) == 3) = true := beq_iff_eq.mpr c110
                  have c110b1 : (((rd_T37 t739 x6_2).f0) != 3) = false := bne_eq_false_iff_eq.mpr c110
                  clear c110
                  by_cases c111 : x8_3 = 0
                  ·rw [if_pos c111] at H
                   have c111b0 : (x8_3 == 0) = true := beq_iff_eq.mpr c111
                   have c111b1 : (x8_3 != 0) = false := bne_eq_false_iff_eq.mpr c111
                   clear c111
                   by_cases c112 : ((rd_T37 t739 x6_2).f0) = 2
                   ·rw [if_pos c112] at H
                    have c112b0 : (((rd_T37 t739 x6_2).f0) == 2) = true := beq_iff_eq.mpr c112
                    have c112b1 : (((rd_T37 t739 x6_2).f0) != 2) = false := bne_eq_false_iff_eq.mpr c112
                    clear c112
                    by_cases c113 : x8_3 < 2
                    ·rw [if_pos c113] at H
                     have c113b0 : decide (x8_3 < 2) = true := decide_eq_true c113
                     clear c113
                     have H' := Aside0.mk H
                     clear H
                     have hnb114 := NB743_733.out
                     have hnc114 := NB733_743.out
                     have hnb115 := NB743_734.out
                     have hnc115 := NB734_743.out
                     obtain ⟨hcz116_0, hcz116_1, hcz116_2, hfz116_0, hfz116_1, hfz116_2⟩ := blk3_ BK743.out
                     go_wp2
                     repeat (go_quiet (fail); try go_wp2)
                     go_meet
                     case rel => exact ⟨_, (true), (by first | rfl | (simp; done) | (simp [*]; done)), H', ⟨by have := HJ2.out; have := HK2.out; have := HK3.out; have := HJ85.out; first | omega | exact Nat.le_refl _⟩, ⟨by (with_reducible repeat (first | apply Kd.R_alloc | apply Kd.R_drewN | apply Kd.R_drew)); exact HO_5.out⟩, ⟨by (with_reducible repeat (first | refine blk_drewN ?_ _ | refine blk_drew ?_ | refine blk_alloc ?_ _)); exact BK733.out⟩, ⟨by (with_reducible repeat (first | refine blk_drewN ?_ _ | refine blk_drew ?_ | refine blk_alloc ?_ _)); exact BK734.out⟩, ⟨by (with_reducible repeat (first | refine blk_drewN ?_ _ | refine blk_drew ?_ | refine blk_alloc ?_ _)); exact BK743.out⟩, ⟨by repeat (first | (with_reducible first | exact HB.out | apply below_alloc | apply pw_below_drewN | apply below_drew1 | refine below_set ?_ GE733.out | refine below_set ?_ GE734.out | refine below_set ?_ GE743.out) | exact HB.out)⟩⟩
                    ·rw [if_neg c113] at H
                     have c113b0 : decide (x8_3 < 2) = false := decide_eq_false c113
                     clear c113
                     have H' := Aside0.mk H
                     clear H
                     have hnb117 := NB743_733.out
                     have hnc117 := NB733_743.out
                     have hnb118 := NB743_734.out
                     have hnc118 := NB734_743.out
                     obtain ⟨hcz119_0, hcz119_1, hcz119_2, hfz119_0, hfz119_1, hfz119_2⟩ := blk3_ BK743.out
                     go_wp2
                     repeat (go_quiet (fail); try go_wp2)
                     go_meet
                     case rel => exact ⟨_, (false), (by first | rfl | (simp; done) | (simp [*]; done)), H', ⟨by have := HJ2.out; have := HK2.out; have := HK3.out; have := HJ85.out; first | omega | exact Nat.le_refl _⟩, ⟨by (with_reducible repeat (first | apply Kd.R_alloc | apply Kd.R_drewN | apply Kd.R_drew)); exact HO_5.out⟩, ⟨by (with_reducible repeat (first | refine blk_drewN ?_ _ | refine blk_drew ?_ | refine blk_alloc ?_ _)); exact BK733.out⟩, ⟨by (with_reducible repeat (first | refine blk_drewN ?_ _ | refine blk_drew ?_ | refine blk_alloc ?_ _)); exact BK734.out⟩, ⟨by (with_reducible repeat (first | refine blk_drewN ?_ _ | refine blk_drew ?_ | refine blk_alloc ?_ _)); exact BK743.out⟩, ⟨by repeat (first | (with_reducible first | exact HB.out | apply below_alloc | apply pw_below_drewN | apply below_drew1 | refine below_set ?_ GE733.out | refine below_set ?_ GE734.out | refine below_set ?_ GE743.out) | exact HB.out)⟩⟩
                   ·rw [if_neg c112] at H
                    have c112b0 : (((rd_T37 t739 x6_2).f0) == 2) = false := beq_eq_false_iff_ne.mpr c112
                    have c112b1 : (((rd_T37 t739 x6_2).f0) != 2) = true := bne_iff_ne.mpr c112
                    have H' := Aside0.mk H
                    clear H
                    have hnb120 := NB743_733.out
                    have hnc120 := NB733_743.out
                    have hnb121 := NB743_734.out
                    have hnc121 := NB734_743.out
                    obtain ⟨hcz122_0, hcz122_1, hcz122_2, hfz122_0, hfz122_1, hfz122_2⟩ := blk3_ BK743.out
                    go_wp2
                    repeat (go_quiet (fail); try go_wp2)
                    go_meet
                    case rel => exact ⟨_, (false), (by first | rfl | (simp; done) | (simp [*]; done)), H', ⟨by have := HJ2.out; have := HK2.out; have := HK3.out; have := HJ85.out; first | omega | exact Nat.le_refl _⟩, ⟨by (with_reducible repeat (first | apply Kd.R_alloc | apply Kd.R_drewN | apply Kd.R_drew)); exact HO_5.out⟩, ⟨by (with_reducible repeat (first | refine blk_drewN ?_ _ | refine blk_drew ?_ | refine blk_alloc ?_ _)); exact BK733.out⟩, ⟨by (with_reducible repeat (first | refine blk_drewN ?_ _ | refine blk_drew ?_ | refine blk_alloc ?_ _)); exact BK734.out⟩, ⟨by (with_reducible repeat (first | refine blk_drewN ?_ _ | refine blk_drew ?_ | refine blk_alloc ?_ _)); exact BK743.out⟩, ⟨by repeat (first | (with_reducible first | exact HB.out | apply below_alloc | apply pw_below_drewN | apply below_drew1 | refine below_set ?_ GE733.out | refine below_set ?_ GE734.out | refine below_set ?_ GE743.out) | exact HB.out)⟩⟩
                  ·rw [if_neg c111] at H
                   have c111b0 : (x8_3 == 0) = false := beq_eq_false_iff_ne.mpr c111
                   have c111b1 : (x8_3 != 0) = true := bne_iff_ne.mpr c111
                   have H' := Aside0.mk H
                   clear H
                   have hnb123 := NB743_733.out
                   have hnc123 := NB733_743.out
                   have hnb124 := NB743_734.out
                   have hnc124 := NB734_743.out
                   obtain ⟨hcz125_0, hcz125_1, hcz125_2, hfz125_0, hfz125_1, hfz125_2⟩ := blk3_ BK743.out
                   go_wp2
                   repeat (go_quiet (fail); try go_wp2)
                   go_meet
                   case rel => exact ⟨_, (true), (by first | rfl | (simp; done) | (simp [*]; done)), H', ⟨by have := HJ2.out; have := HK2.out; have := HK3.out; have := HJ85.out; first | omega | exact Nat.le_refl _⟩, ⟨by (with_reducible repeat (first | apply Kd.R_alloc | apply Kd.R_drewN | apply Kd.R_drew)); exact HO_5.out⟩, ⟨by (with_reducible repeat (first | refine blk_drewN ?_ _ | refine blk_drew ?_ | refine blk_alloc ?_ _)); exact BK733.out⟩, ⟨by (with_reducible repeat (first | refine blk_drewN ?_ _ | refine blk_drew ?_ | refine blk_alloc ?_ _)); exact BK734.out⟩, ⟨by (with_reducible repeat (first | refine blk_drewN ?_ _ | refine blk_drew ?_ | refine blk_alloc ?_ _)); exact BK743.out⟩, ⟨by repeat (first | (with_reducible first | exact HB.out | apply below_alloc | apply pw_below_drewN | apply below_drew1 | refine below_set ?_ GE733.out | refine below_set ?_ GE734.out | refine below_set ?_ GE743.out) | exact HB.out)⟩⟩
                 ·rw [if_neg c110] at H
                  have c110b0 : (((rd_T37 t739 x6_2).f0) == 3) = false := beq_eq_false_iff_ne.mpr c110
                  have c110b1 : (((rd_T37 t739 x6_2).f0) != 3) = true := bne_iff_ne.mpr c110
                  by_cases c126 : ((rd_T37 t739 x6_2).f0) = 2
                  ·rw [if_pos c126] at H
                   have c126b0 : (((rd_T37 t739 x6_2).f0) == 2) = true := beq_iff_eq.mpr c126
                   have c126b1 : (((rd_T37 t739 x6_2).f0) != 2) = false := bne_eq_false_iff_eq.mpr c126
                   clear c126
                   by_cases c127 : x8_3 < 2
                   ·rw [if_pos c127] at H
                    have c127b0 : decide (x8_3 < 2) = true := decide_eq_true c127
                    clear c127
                    have H' := Aside0.mk H
                    clear H
                    have hnb128 := NB743_733.out
                    have hnc128 := NB733_743.out
                    have hnb129 := NB743_734.out
                    have hnc129 := NB734_743.out
                    obtain ⟨hcz130_0, hcz130_1, hcz130_2, hfz130_0, hfz130_1, hfz130_2⟩ := blk3_ BK743.out
                    go_wp2
                    repeat (go_quiet (fail); try go_wp2)
                    go_meet
                    case rel => exact ⟨_, (true), (by first | rfl | (simp; done) | (simp [*]; done)), H', ⟨by have := HJ2.out; have := HK2.out; have := HK3.out; have := HJ85.out; first | omega | exact Nat.le_refl _⟩, ⟨by (with_reducible repeat (first | apply Kd.R_alloc | apply Kd.R_drewN | apply Kd.R_drew)); exact HO_5.out⟩, ⟨by (with_reducible repeat (first | refine blk_drewN ?_ _ | refine blk_drew ?_ | refine blk_alloc ?_ _)); exact BK733.out⟩, ⟨by (with_reducible repeat (first | refine blk_drewN ?_ _ | refine blk_drew ?_ | refine blk_alloc ?_ _)); exact BK734.out⟩, ⟨by (with_reducible repeat (first | refine blk_drewN ?_ _ | refine blk_drew ?_ | refine blk_alloc ?_ _)); exact BK743.out⟩, ⟨by repeat (first | (with_reducible first | exact HB.out | apply below_alloc | apply pw_below_drewN | apply below_drew1 | refine below_set ?_ GE733.out | refine below_set ?_ GE734.out | refine below_set ?_ GE743.out) | exact HB.out)⟩⟩
                   ·rw [if_neg c127] at H
                    have c127b0 : decide (x8_3 < 2) = false := decide_eq_false c127
                    clear c127
                    by_cases c131 : ((rd_T37 t739 x6_2).f0) = 4
                    ·rw [if_pos c131] at H
                     have c131b0 : (((rd_T37 t739 x6_2).f0) == 4) = true := beq_iff_eq.mpr c131
                     have c131b1 : (((rd_T37 t739 x6_2).f0) != 4) = false := bne_eq_false_iff_eq.mpr c131
                     clear c131
                     have H' := Aside0.mk H
                     clear H
                     have hnb132 := NB743_733.out
                     have hnc132 := NB733_743.out
                     have hnb133 := NB743_734.out
                     have hnc133 := NB734_743.out
                     obtain ⟨hcz134_0, hcz134_1, hcz134_2, hfz134_0, hfz134_1, hfz134_2⟩ := blk3_ BK743.out
                     go_wp2
                     repeat (go_quiet (fail); try go_wp2)
                     go_meet
                     case rel => exact ⟨_, (false), (by first | rfl | (simp; done) | (simp [*]; done)), H', ⟨by have := HJ2.out; have := HK2.out; have := HK3.out; have := HJ85.out; first | omega | exact Nat.le_refl _⟩, ⟨by (with_reducible repeat (first | apply Kd.R_alloc | apply Kd.R_drewN | apply Kd.R_drew)); exact HO_5.out⟩, ⟨by (with_reducible repeat (first | refine blk_drewN ?_ _ | refine blk_drew ?_ | refine blk_alloc ?_ _)); exact BK733.out⟩, ⟨by (with_reducible repeat (first | refine blk_drewN ?_ _ | refine blk_drew ?_ | refine blk_alloc ?_ _)); exact BK734.out⟩, ⟨by (with_reducible repeat (first | refine blk_drewN ?_ _ | refine blk_drew ?_ | refine blk_alloc ?_ _)); exact BK743.out⟩, ⟨by repeat (first | (with_reducible first | exact HB.out | apply below_alloc | apply pw_below_drewN | apply below_drew1 | refine below_set ?_ GE733.out | refine below_set ?_ GE734.out | refine below_set ?_ GE743.out) | exact HB.out)⟩⟩
                    ·rw [if_neg c131] at H
                     have c131b0 : (((rd_T37 t739 x6_2).f0) == 4) = false := beq_eq_false_iff_ne.mpr c131
                     have c131b1 : (((rd_T37 t739 x6_2).f0) != 4) = true := bne_iff_ne.mpr c131
                     by_cases c135 : x11_85 = true
                     ·subst c135
                      have H1 : (entrepotlaw11_FeasTold.j5 kj85 t739 x6_2 false l1_0 ((rd_T37 t739 x6_2).f0) ((rd_T37 t739 x6_2).f1) ((rd_T37 t739 x6_2).f2)) = some r := by rw [if_pos rfl] at H; exact H
                      clear H
                      have H := H1
                      clear H1
                      have H' := Aside0.mk H
                      clear H
                      have hnb136 := NB743_733.out
                      have hnc136 := NB733_743.out
                      have hnb137 := NB743_734.out
                      have hnc137 := NB734_743.out
                      obtain ⟨hcz138_0, hcz138_1, hcz138_2, hfz138_0, hfz138_1, hfz138_2⟩ := blk3_ BK743.out
                      go_wp2
                      repeat (go_quiet (fail); try go_wp2)
                      go_meet
                      case rel => exact ⟨_, (false), (by first | rfl | (simp; done) | (simp [*]; done)), H', ⟨by have := HJ2.out; have := HK2.out; have := HK3.out; have := HJ85.out; first | omega | exact Nat.le_refl _⟩, ⟨by (with_reducible repeat (first | apply Kd.R_alloc | apply Kd.R_drewN | apply Kd.R_drew)); exact HO_5.out⟩, ⟨by (with_reducible repeat (first | refine blk_drewN ?_ _ | refine blk_drew ?_ | refine blk_alloc ?_ _)); exact BK733.out⟩, ⟨by (with_reducible repeat (first | refine blk_drewN ?_ _ | refine blk_drew ?_ | refine blk_alloc ?_ _)); exact BK734.out⟩, ⟨by (with_reducible repeat (first | refine blk_drewN ?_ _ | refine blk_drew ?_ | refine blk_alloc ?_ _)); exact BK743.out⟩, ⟨by repeat (first | (with_reducible first | exact HB.out | apply below_alloc | apply pw_below_drewN | apply below_drew1 | refine below_set ?_ GE733.out | refine below_set ?_ GE734.out | refine below_set ?_ GE743.out) | exact HB.out)⟩⟩
                     ·replace c135 := Bool.eq_false_iff.mpr c135
                      subst c135
                      have H1 : (entrepotlaw11_FeasTold.j5 kj85 t739 x6_2 (x8_3 == 0) l1_0 ((rd_T37 t739 x6_2).f0) ((rd_T37 t739 x6_2).f1) ((rd_T37 t739 x6_2).f2)) = some r := by rw [if_neg (show ¬ (false = true) by decide)] at H; exact H
                      clear H
                      have H := H1
                      clear H1
                      have H' := Aside0.mk H
                      clear H
                      have hnb139 := NB743_733.out
                      have hnc139 := NB733_743.out
                      have hnb140 := NB743_734.out
                      have hnc140 := NB734_743.out
                      obtain ⟨hcz141_0, hcz141_1, hcz141_2, hfz141_0, hfz141_1, hfz141_2⟩ := blk3_ BK743.out
                      go_wp2
                      repeat (go_quiet (fail); try go_wp2)
                      go_meet
                      case rel => exact ⟨_, ((x8_3 == 0)), (by first | rfl | (simp; done) | (simp [*]; done)), H', ⟨by have := HJ2.out; have := HK2.out; have := HK3.out; have := HJ85.out; first | omega | exact Nat.le_refl _⟩, ⟨by (with_reducible repeat (first | apply Kd.R_alloc | apply Kd.R_drewN | apply Kd.R_drew)); exact HO_5.out⟩, ⟨by (with_reducible repeat (first | refine blk_drewN ?_ _ | refine blk_drew ?_ | refine blk_alloc ?_ _)); exact BK733.out⟩, ⟨by (with_reducible repeat (first | refine blk_drewN ?_ _ | refine blk_drew ?_ | refine blk_alloc ?_ _)); exact BK734.out⟩, ⟨by (with_reducible repeat (first | refine blk_drewN ?_ _ | refine blk_drew ?_ | refine blk_alloc ?_ _)); exact BK743.out⟩, ⟨by repeat (first | (with_reducible first | exact HB.out | apply below_alloc | apply pw_below_drewN | apply below_drew1 | refine below_set ?_ GE733.out | refine below_set ?_ GE734.out | refine below_set ?_ GE743.out) | exact HB.out)⟩⟩
                  ·rw [if_neg c126] at H
                   have c126b0 : (((rd_T37 t739 x6_2).f0) == 2) = false := beq_eq_false_iff_ne.mpr c126
                   have c126b1 : (((rd_T37 t739 x6_2).f0) != 2) = true := bne_iff_ne.mpr c126
                   by_cases c142 : ((rd_T37 t739 x6_2).f0) = 4
                   ·rw [if_pos c142] at H
                    have c142b0 : (((rd_T37 t739 x6_2).f0) == 4) = true := beq_iff_eq.mpr c142
                    have c142b1 : (((rd_T37 t739 x6_2).f0) != 4) = false := bne_eq_false_iff_eq.mpr c142
                    clear c142
                    have H' := Aside0.mk H
                    clear H
                    have hnb143 := NB743_733.out
                    have hnc143 := NB733_743.out
                    have hnb144 := NB743_734.out
                    have hnc144 := NB734_743.out
                    obtain ⟨hcz145_0, hcz145_1, hcz145_2, hfz145_0, hfz145_1, hfz145_2⟩ := blk3_ BK743.out
                    go_wp2
                    repeat (go_quiet (fail); try go_wp2)
                    go_meet
                    case rel => exact ⟨_, (false), (by first | rfl | (simp; done) | (simp [*]; done)), H', ⟨by have := HJ2.out; have := HK2.out; have := HK3.out; have := HJ85.out; first | omega | exact Nat.le_refl _⟩, ⟨by (with_reducible repeat (first | apply Kd.R_alloc | apply Kd.R_drewN | apply Kd.R_drew)); exact HO_5.out⟩, ⟨by (with_reducible repeat (first | refine blk_drewN ?_ _ | refine blk_drew ?_ | refine blk_alloc ?_ _)); exact BK733.out⟩, ⟨by (with_reducible repeat (first | refine blk_drewN ?_ _ | refine blk_drew ?_ | refine blk_alloc ?_ _)); exact BK734.out⟩, ⟨by (with_reducible repeat (first | refine blk_drewN ?_ _ | refine blk_drew ?_ | refine blk_alloc ?_ _)); exact BK743.out⟩, ⟨by repeat (first | (with_reducible first | exact HB.out | apply below_alloc | apply pw_below_drewN | apply below_drew1 | refine below_set ?_ GE733.out | refine below_set ?_ GE734.out | refine below_set ?_ GE743.out) | exact HB.out)⟩⟩
                   ·rw [if_neg c142] at H
                    have c142b0 : (((rd_T37 t739 x6_2).f0) == 4) = false := beq_eq_false_iff_ne.mpr c142
                    have c142b1 : (((rd_T37 t739 x6_2).f0) != 4) = true := bne_iff_ne.mpr c142
                    by_cases c146 : x11_85 = true
                    ·subst c146
                     have H1 : (entrepotlaw11_FeasTold.j5 kj85 t739 x6_2 false l1_0 ((rd_T37 t739 x6_2).f0) ((rd_T37 t739 x6_2).f1) ((rd_T37 t739 x6_2).f2)) = some r := by rw [if_pos rfl] at H; exact H
                     clear H
                     have H := H1
                     clear H1
                     have H' := Aside0.mk H
                     clear H
                     have hnb147 := NB743_733.out
                     have hnc147 := NB733_743.out
                     have hnb148 := NB743_734.out
                     have hnc148 := NB734_743.out
                     obtain ⟨hcz149_0, hcz149_1, hcz149_2, hfz149_0, hfz149_1, hfz149_2⟩ := blk3_ BK743.out
                     go_wp2
                     repeat (go_quiet (fail); try go_wp2)
                     go_meet
                     case rel => exact ⟨_, (false), (by first | rfl | (simp; done) | (simp [*]; done)), H', ⟨by have := HJ2.out; have := HK2.out; have := HK3.out; have := HJ85.out; first | omega | exact Nat.le_refl _⟩, ⟨by (with_reducible repeat (first | apply Kd.R_alloc | apply Kd.R_drewN | apply Kd.R_drew)); exact HO_5.out⟩, ⟨by (with_reducible repeat (first | refine blk_drewN ?_ _ | refine blk_drew ?_ | refine blk_alloc ?_ _)); exact BK733.out⟩, ⟨by (with_reducible repeat (first | refine blk_drewN ?_ _ | refine blk_drew ?_ | refine blk_alloc ?_ _)); exact BK734.out⟩, ⟨by (with_reducible repeat (first | refine blk_drewN ?_ _ | refine blk_drew ?_ | refine blk_alloc ?_ _)); exact BK743.out⟩, ⟨by repeat (first | (with_reducible first | exact HB.out | apply below_alloc | apply pw_below_drewN | apply below_drew1 | refine below_set ?_ GE733.out | refine below_set ?_ GE734.out | refine below_set ?_ GE743.out) | exact HB.out)⟩⟩
                    ·replace c146 := Bool.eq_false_iff.mpr c146
                     subst c146
                     have H1 : (entrepotlaw11_FeasTold.j5 kj85 t739 x6_2 (x8_3 == 0) l1_0 ((rd_T37 t739 x6_2).f0) ((rd_T37 t739 x6_2).f1) ((rd_T37 t739 x6_2).f2)) = some r := by rw [if_neg (show ¬ (false = true) by decide)] at H; exact H
                     clear H
                     have H := H1
                     clear H1
                     have H' := Aside0.mk H
                     clear H
                     have hnb150 := NB743_733.out
                     have hnc150 := NB733_743.out
                     have hnb151 := NB743_734.out
                     have hnc151 := NB734_743.out
                     obtain ⟨hcz152_0, hcz152_1, hcz152_2, hfz152_0, hfz152_1, hfz152_2⟩ := blk3_ BK743.out
                     go_wp2
                     repeat (go_quiet (fail); try go_wp2)
                     go_meet
                     case rel => exact ⟨_, ((x8_3 == 0)), (by first | rfl | (simp; done) | (simp [*]; done)), H', ⟨by have := HJ2.out; have := HK2.out; have := HK3.out; have := HJ85.out; first | omega | exact Nat.le_refl _⟩, ⟨by (with_reducible repeat (first | apply Kd.R_alloc | apply Kd.R_drewN | apply Kd.R_drew)); exact HO_5.out⟩, ⟨by (with_reducible repeat (first | refine blk_drewN ?_ _ | refine blk_drew ?_ | refine blk_alloc ?_ _)); exact BK733.out⟩, ⟨by (with_reducible repeat (first | refine blk_drewN ?_ _ | refine blk_drew ?_ | refine blk_alloc ?_ _)); exact BK734.out⟩, ⟨by (with_reducible repeat (first | refine blk_drewN ?_ _ | refine blk_drew ?_ | refine blk_alloc ?_ _)); exact BK743.out⟩, ⟨by repeat (first | (with_reducible first | exact HB.out | apply below_alloc | apply pw_below_drewN | apply below_drew1 | refine below_set ?_ GE733.out | refine below_set ?_ GE734.out | refine below_set ?_ GE743.out) | exact HB.out)⟩⟩
             case rest => as_aux_lemma =>
              clear HC97
              obtain ⟨kq, x140_96, rfl, HA, HJ96, HO_5, BK733, BK734, BK743, HB⟩ := hcut
              cases kq with
              | zero => exact absurd HA.out (by simp [entrepotlaw11_FeasTold.j5])
              | succ kj96 =>
               have H := HA.out
               clear HA
               simp only [entrepotlaw11_FeasTold.j5] at H
               by_cases c153 : x140_96 = true
               ·subst c153
                have H1 : (some false) = some r := by rw [if_pos rfl] at H; exact H
                clear H
                have H := H1
                clear H1
                exact absurd ((Option.some.inj H).trans hr_.out) (by decide)
               ·replace c153 := Bool.eq_false_iff.mpr c153
                subst c153
                have H1 : (entrepotlaw11_FeasTold.l3 kj96 t739 x6_2 0 l1_0 ((rd_T37 t739 x6_2).f0) ((rd_T37 t739 x6_2).f1) ((rd_T37 t739 x6_2).f2)) = some r := by rw [if_neg (show ¬ (false = true) by decide)] at H; exact H
                clear H
                have H := H1
                clear H1
                have H' := Aside0.mk H
                clear H
                go_wp2
                repeat (go_quiet (fail); try go_wp2)
                go_loopg [12] kj96 (fun kq v12 w' => ∃ (x12_6 : Int), v12 = .int .i64 x12_6 ∧ Aside0 (entrepotlaw11_FeasTold.l3 kq t739 x6_2 x12_6 l1_0 ((rd_T37 t739 x6_2).f0) ((rd_T37 t739 x6_2).f1) ((rd_T37 t739 x6_2).f2) = some r) ∧ Aside0 (kq ≤ kj96) ∧ Aside0 (Kd.R k37 37 w' w.heap.size (fun k_ => k_ ≠ gb743) (.slice (some ad742) t739.length co35) t739) ∧ Aside0 (w'.heap[gb733]? = some (.cells #[.string a0_0, .int .i64 a0_1, .int .i64 a0_2, .int .i64 a0_3, .int .i64 a0_4, .int .i64 a0_5, (.slice A0_6 l0_6.length c0_6), (.slice A0_7 l0_7.length c0_7)] 25 (0, 0))) ∧ Aside0 (w'.heap[gb734]? = some (.cells #[(.slice A1_0 l1_0.length c1_0)] 30 (0, 0))) ∧ Aside0 (w'.heap[gb743]? = some (.cells #[.int .i64 ((rd_T37 t739 x6_2).f0), .int .i64 ((rd_T37 t739 x6_2).f1), .int .i64 ((rd_T37 t739 x6_2).f2)] 37 (0, 0))) ∧ Aside0 (Below w.heap.size w w'))
                case atStart => exact ⟨(0), (by first | rfl | (simp; done) | (simp [*]; done)), H', ⟨Nat.le_refl _⟩, ⟨by (with_reducible repeat (first | apply Kd.R_alloc | apply Kd.R_drewN | apply Kd.R_drew)); exact HO_5.out⟩, ⟨by (with_reducible repeat (first | refine blk_drewN ?_ _ | refine blk_drew ?_ | refine blk_alloc ?_ _)); exact BK733.out⟩, ⟨by (with_reducible repeat (first | refine blk_drewN ?_ _ | refine blk_drew ?_ | refine blk_alloc ?_ _)); exact BK734.out⟩, ⟨by (with_reducible repeat (first | refine blk_drewN ?_ _ | refine blk_drew ?_ | refine blk_alloc ?_ _)); exact BK743.out⟩, ⟨by repeat (first | (with_reducible first | exact HB.out | apply below_alloc | apply pw_below_drewN | apply below_drew1 | refine below_set ?_ GE733.out | refine below_set ?_ GE734.out | refine below_set ?_ GE743.out) | exact HB.out)⟩⟩
                case round =>
                 clear H'
                 (try clear c153)
                 obtain ⟨x12_6, rfl, HA, HK6, HO_5, BK733, BK734, BK743, HB⟩ := hrel
                 cases gk with
                 | zero => exact absurd HA.out (by simp [entrepotlaw11_FeasTold.l3])
                 | succ k6 =>
                  have H := HA.out
                  clear HA
                  simp only [entrepotlaw11_FeasTold.l3] at H
                  by_cases c154 : x12_6 < x6_2
                  ·rw [if_pos c154] at H
                   have c154b0 : decide (x12_6 < x6_2) = true := decide_eq_true c154
                   clear c154
                   by_cases c155 : 0 ≤ x12_6
                   ·rw [if_pos c155] at H
                    have c155b0 : decide (0 ≤ x12_6) = true := decide_eq_true c155
                    clear c155
                    by_cases c156 : x12_6 < (t739.length : Int)
                    ·rw [if_pos c156] at H
                     have c156b0 : decide (x12_6 < (t739.length : Int)) = true := decide_eq_true c156
                     clear c156
                     by_cases c157 : ((rd_T37 t739 x12_6).f0) = ((rd_T37 t739 x6_2).f0)
                     ·rw [if_pos c157] at H
                      have c157b0 : (((rd_T37 t739 x12_6).f0) == ((rd_T37 t739 x6_2).f0)) = true := beq_iff_eq.mpr c157
                      have c157b1 : (((rd_T37 t739 x12_6).f0) != ((rd_T37 t739 x6_2).f0)) = false := bne_eq_false_iff_eq.mpr c157
                      clear c157
                      by_cases c158 : ((rd_T37 t739 x12_6).f1) = ((rd_T37 t739 x6_2).f1)
                      ·rw [if_pos c158] at H
                       have c158b0 : (((rd_T37 t739 x12_6).f1) == ((rd_T37 t739 x6_2).f1)) = true := beq_iff_eq.mpr c158
                       have c158b1 : (((rd_T37 t739 x12_6).f1) != ((rd_T37 t739 x6_2).f1)) = false := bne_eq_false_iff_eq.mpr c158
                       clear c158
                       by_cases c159 : ((rd_T37 t739 x6_2).f0) = 5
                       ·rw [if_pos c159] at H
                        have c159b0 : (((rd_T37 t739 x6_2).f0) == 5) = true := beq_iff_eq.mpr c159
                        have c159b1 : (((rd_T37 t739 x6_2).f0) != 5) = false := bne_eq_false_iff_eq.mpr c159
                        clear c159
                        exact absurd ((Option.some.inj H).trans hr_.out) (by decide)
                       ·rw [if_neg c159] at H
                        have c159b0 : (((rd_T37 t739 x6_2).f0) == 5) = false := beq_eq_false_iff_ne.mpr c159
                        have c159b1 : (((rd_T37 t739 x6_2).f0) != 5) = true := bne_iff_ne.mpr c159
                        by_cases c160 : ((rd_T37 t739 x6_2).f0) = 6
                        ·rw [if_pos c160] at H
                         have c160b0 : (((rd_T37 t739 x6_2).f0) == 6) = true := beq_iff_eq.mpr c160
                         have c160b1 : (((rd_T37 t739 x6_2).f0) != 6) = false := bne_eq_false_iff_eq.mpr c160
                         clear c160
                         exact absurd ((Option.some.inj H).trans hr_.out) (by decide)
                        ·rw [if_neg c160] at H
                         have c160b0 : (((rd_T37 t739 x6_2).f0) == 6) = false := beq_eq_false_iff_ne.mpr c160
                         have c160b1 : (((rd_T37 t739 x6_2).f0) != 6) = true := bne_iff_ne.mpr c160
                         by_cases c161 : ((rd_T37 t739 x6_2).f0) = 4
                         ·rw [if_pos c161] at H
                          have c161b0 : (((rd_T37 t739 x6_2).f0) == 4) = true := beq_iff_eq.mpr c161
                          have c161b1 : (((rd_T37 t739 x6_2).f0) != 4) = false := bne_eq_false_iff_eq.mpr c161
                          clear c161
                          exact absurd ((Option.some.inj H).trans hr_.out) (by decide)
                         ·rw [if_neg c161] at H
                          have c161b0 : (((rd_T37 t739 x6_2).f0) == 4) = false := beq_eq_false_iff_ne.mpr c161
                          have c161b1 : (((rd_T37 t739 x6_2).f0) != 4) = true := bne_iff_ne.mpr c161
                          by_cases c162 : ((((rd_T37 t739 x12_6).f0) == 1) != (((rd_T37 t739 x6_2).f0) == 1)) = true
                          ·rw [if_pos c162] at H
                           have c162b0 : ((((rd_T37 t739 x12_6).f0) == 1) != (((rd_T37 t739 x6_2).f0) == 1)) = true := c162
                           (try (have c162b1 : decide ((((rd_T37 t739 x12_6).f0) == 1) = (((rd_T37 t739 x6_2).f0) == 1)) = false := by simpa using c162))
                           (try (have c162b2 : ((((rd_T37 t739 x12_6).f0) == 1) == (((rd_T37 t739 x6_2).f0) == 1)) = false := by simpa using c162))
                           (try (have c162b3 : ¬ ((((rd_T37 t739 x12_6).f0) == 1) = (((rd_T37 t739 x6_2).f0) == 1)) := by simpa using c162))
                           clear c162
                           exact absurd ((Option.some.inj H).trans hr_.out) (by decide)
                          ·rw [if_neg c162] at H
                           have c162b0 : ((((rd_T37 t739 x12_6).f0) == 1) != (((rd_T37 t739 x6_2).f0) == 1)) = false := by simpa using c162
                           (try (have c162b1 : decide ((((rd_T37 t739 x12_6).f0) == 1) = (((rd_T37 t739 x6_2).f0) == 1)) = true := by simpa using c162))
                           (try (have c162b2 : ((((rd_T37 t739 x12_6).f0) == 1) == (((rd_T37 t739 x6_2).f0) == 1)) = true := by simpa using c162))
                           clear c162
                           have H' := Aside0.mk H
                           clear H
                           have p747 : 0 ≤ (x12_6 : Int) := of_decide_eq_true (by first | (with_reducible assumption) | assumption)
                           have q747 : x12_6 < (t739.length : Int) := of_decide_eq_true (by first | (with_reducible assumption) | assumption)
                           obtain ⟨ad747, e747, hx747_0, hx747_1, hx747_2⟩ := at_T37 (Kd.R_reads' HO_5.out).2.2 x12_6 p747 q747
                           obtain rfl : ad742 = ad747 := (by injection e747)
                           replace p747 := eq_true p747
                           replace q747 := eq_true q747
                           have hnb163 := NB743_733.out
                           have hnc163 := NB733_743.out
                           have hnb164 := NB743_734.out
                           have hnc164 := NB734_743.out
                           obtain ⟨hcz165_0, hcz165_1, hcz165_2, hfz165_0, hfz165_1, hfz165_2⟩ := blk3_ BK743.out
                           have p748 : 0 ≤ (x12_6 : Int) := of_decide_eq_true (by first | (with_reducible assumption) | assumption)
                           have q748 : x12_6 < (t739.length : Int) := of_decide_eq_true (by first | (with_reducible assumption) | assumption)
                           obtain ⟨ad748, e748, hx748_0, hx748_1, hx748_2⟩ := at_T37 (Kd.R_reads' HO_5.out).2.2 x12_6 p748 q748
                           obtain rfl : ad742 = ad748 := (by injection e748)
                           replace p748 := eq_true p748
                           replace q748 := eq_true q748
                           have p749 : 0 ≤ (x12_6 : Int) := of_decide_eq_true (by first | (with_reducible assumption) | assumption)
                           have q749 : x12_6 < (t739.length : Int) := of_decide_eq_true (by first | (with_reducible assumption) | assumption)
                           obtain ⟨ad749, e749, hx749_0, hx749_1, hx749_2⟩ := at_T37 (Kd.R_reads' HO_5.out).2.2 x12_6 p749 q749
                           obtain rfl : ad742 = ad749 := (by injection e749)
                           replace p749 := eq_true p749
                           replace q749 := eq_true q749
                           go_wp2
                           repeat (go_quiet (fail); try go_wp2)
                           go_roundg k6
                           case measure => have := HJ2.out; have := HK2.out; have := HK3.out; have := HJ85.out; have := HJ96.out; have := HK6.out; omega
                           case rel => exact ⟨(wrap64 (x12_6 + 1)), (by first | rfl | (simp; done) | (simp [*]; done)), H', ⟨by have := HJ2.out; have := HK2.out; have := HK3.out; have := HJ85.out; have := HJ96.out; have := HK6.out; omega⟩, ⟨by (with_reducible repeat (first | apply Kd.R_alloc | apply Kd.R_drewN | apply Kd.R_drew)); exact HO_5.out⟩, ⟨by (with_reducible repeat (first | refine blk_drewN ?_ _ | refine blk_drew ?_ | refine blk_alloc ?_ _)); exact BK733.out⟩, ⟨by (with_reducible repeat (first | refine blk_drewN ?_ _ | refine blk_drew ?_ | refine blk_alloc ?_ _)); exact BK734.out⟩, ⟨by (with_reducible repeat (first | refine blk_drewN ?_ _ | refine blk_drew ?_ | refine blk_alloc ?_ _)); exact BK743.out⟩, ⟨by repeat (first | (with_reducible first | exact HB.out | apply below_alloc | apply pw_below_drewN | apply below_drew1 | refine below_set ?_ GE733.out | refine below_set ?_ GE734.out | refine below_set ?_ GE743.out) | exact HB.out)⟩⟩
                      ·rw [if_neg c158] at H
                       have c158b0 : (((rd_T37 t739 x12_6).f1) == ((rd_T37 t739 x6_2).f1)) = false := beq_eq_false_iff_ne.mpr c158
                       have c158b1 : (((rd_T37 t739 x12_6).f1) != ((rd_T37 t739 x6_2).f1)) = true := bne_iff_ne.mpr c158
                       by_cases c166 : ((((rd_T37 t739 x12_6).f0) == 1) != (((rd_T37 t739 x6_2).f0) == 1)) = true
                       ·rw [if_pos c166] at H
                        have c166b0 : ((((rd_T37 t739 x12_6).f0) == 1) != (((rd_T37 t739 x6_2).f0) == 1)) = true := c166
                        (try (have c166b1 : decide ((((rd_T37 t739 x12_6).f0) == 1) = (((rd_T37 t739 x6_2).f0) == 1)) = false := by simpa using c166))
                        (try (have c166b2 : ((((rd_T37 t739 x12_6).f0) == 1) == (((rd_T37 t739 x6_2).f0) == 1)) = false := by simpa using c166))
                        (try (have c166b3 : ¬ ((((rd_T37 t739 x12_6).f0) == 1) = (((rd_T37 t739 x6_2).f0) == 1)) := by simpa using c166))
                        clear c166
                        exact absurd ((Option.some.inj H).trans hr_.out) (by decide)
                       ·rw [if_neg c166] at H
                        have c166b0 : ((((rd_T37 t739 x12_6).f0) == 1) != (((rd_T37 t739 x6_2).f0) == 1)) = false := by simpa using c166
                        (try (have c166b1 : decide ((((rd_T37 t739 x12_6).f0) == 1) = (((rd_T37 t739 x6_2).f0) == 1)) = true := by simpa using c166))
                        (try (have c166b2 : ((((rd_T37 t739 x12_6).f0) == 1) == (((rd_T37 t739 x6_2).f0) == 1)) = true := by simpa using c166))
                        clear c166
                        have H' := Aside0.mk H
                        clear H
                        have p747 : 0 ≤ (x12_6 : Int) := of_decide_eq_true (by first | (with_reducible assumption) | assumption)
                        have q747 : x12_6 < (t739.length : Int) := of_decide_eq_true (by first | (with_reducible assumption) | assumption)
                        obtain ⟨ad747, e747, hx747_0, hx747_1, hx747_2⟩ := at_T37 (Kd.R_reads' HO_5.out).2.2 x12_6 p747 q747
                        obtain rfl : ad742 = ad747 := (by injection e747)
                        replace p747 := eq_true p747
                        replace q747 := eq_true q747
                        have hnb167 := NB743_733.out
                        have hnc167 := NB733_743.out
                        have hnb168 := NB743_734.out
                        have hnc168 := NB734_743.out
                        obtain ⟨hcz169_0, hcz169_1, hcz169_2, hfz169_0, hfz169_1, hfz169_2⟩ := blk3_ BK743.out
                        have p748 : 0 ≤ (x12_6 : Int) := of_decide_eq_true (by first | (with_reducible assumption) | assumption)
                        have q748 : x12_6 < (t739.length : Int) := of_decide_eq_true (by first | (with_reducible assumption) | assumption)
                        obtain ⟨ad748, e748, hx748_0, hx748_1, hx748_2⟩ := at_T37 (Kd.R_reads' HO_5.out).2.2 x12_6 p748 q748
                        obtain rfl : ad742 = ad748 := (by injection e748)
                        replace p748 := eq_true p748
                        replace q748 := eq_true q748
                        have p750 : 0 ≤ (x12_6 : Int) := of_decide_eq_true (by first | (with_reducible assumption) | assumption)
                        have q750 : x12_6 < (t739.length : Int) := of_decide_eq_true (by first | (with_reducible assumption) | assumption)
                        obtain ⟨ad750, e750, hx750_0, hx750_1, hx750_2⟩ := at_T37 (Kd.R_reads' HO_5.out).2.2 x12_6 p750 q750
                        obtain rfl : ad742 = ad750 := (by injection e750)
                        replace p750 := eq_true p750
                        replace q750 := eq_true q750
                        go_wp2
                        repeat (go_quiet (fail); try go_wp2)
                        go_roundg k6
                        case measure => have := HJ2.out; have := HK2.out; have := HK3.out; have := HJ85.out; have := HJ96.out; have := HK6.out; omega
                        case rel => exact ⟨(wrap64 (x12_6 + 1)), (by first | rfl | (simp; done) | (simp [*]; done)), H', ⟨by have := HJ2.out; have := HK2.out; have := HK3.out; have := HJ85.out; have := HJ96.out; have := HK6.out; omega⟩, ⟨by (with_reducible repeat (first | apply Kd.R_alloc | apply Kd.R_drewN | apply Kd.R_drew)); exact HO_5.out⟩, ⟨by (with_reducible repeat (first | refine blk_drewN ?_ _ | refine blk_drew ?_ | refine blk_alloc ?_ _)); exact BK733.out⟩, ⟨by (with_reducible repeat (first | refine blk_drewN ?_ _ | refine blk_drew ?_ | refine blk_alloc ?_ _)); exact BK734.out⟩, ⟨by (with_reducible repeat (first | refine blk_drewN ?_ _ | refine blk_drew ?_ | refine blk_alloc ?_ _)); exact BK743.out⟩, ⟨by repeat (first | (with_reducible first | exact HB.out | apply below_alloc | apply pw_below_drewN | apply below_drew1 | refine below_set ?_ GE733.out | refine below_set ?_ GE734.out | refine below_set ?_ GE743.out) | exact HB.out)⟩⟩
                     ·rw [if_neg c157] at H
                      have c157b0 : (((rd_T37 t739 x12_6).f0) == ((rd_T37 t739 x6_2).f0)) = false := beq_eq_false_iff_ne.mpr c157
                      have c157b1 : (((rd_T37 t739 x12_6).f0) != ((rd_T37 t739 x6_2).f0)) = true := bne_iff_ne.mpr c157
                      by_cases c170 : ((((rd_T37 t739 x12_6).f0) == 1) != (((rd_T37 t739 x6_2).f0) == 1)) = true
                      ·rw [if_pos c170] at H
                       have c170b0 : ((((rd_T37 t739 x12_6).f0) == 1) != (((rd_T37 t739 x6_2).f0) == 1)) = true := c170
                       (try (have c170b1 : decide ((((rd_T37 t739 x12_6).f0) == 1) = (((rd_T37 t739 x6_2).f0) == 1)) = false := by simpa using c170))
                       (try (have c170b2 : ((((rd_T37 t739 x12_6).f0) == 1) == (((rd_T37 t739 x6_2).f0) == 1)) = false := by simpa using c170))
                       (try (have c170b3 : ¬ ((((rd_T37 t739 x12_6).f0) == 1) = (((rd_T37 t739 x6_2).f0) == 1)) := by simpa using c170))
                       clear c170
                       exact absurd ((Option.some.inj H).trans hr_.out) (by decide)
                      ·rw [if_neg c170] at H
                       have c170b0 : ((((rd_T37 t739 x12_6).f0) == 1) != (((rd_T37 t739 x6_2).f0) == 1)) = false := by simpa using c170
                       (try (have c170b1 : decide ((((rd_T37 t739 x12_6).f0) == 1) = (((rd_T37 t739 x6_2).f0) == 1)) = true := by simpa using c170))
                       (try (have c170b2 : ((((rd_T37 t739 x12_6).f0) == 1) == (((rd_T37 t739 x6_2).f0) == 1)) = true := by simpa using c170))
                       clear c170
                       have H' := Aside0.mk H
                       clear H
                       have p747 : 0 ≤ (x12_6 : Int) := of_decide_eq_true (by first | (with_reducible assumption) | assumption)
                       have q747 : x12_6 < (t739.length : Int) := of_decide_eq_true (by first | (with_reducible assumption) | assumption)
                       obtain ⟨ad747, e747, hx747_0, hx747_1, hx747_2⟩ := at_T37 (Kd.R_reads' HO_5.out).2.2 x12_6 p747 q747
                       obtain rfl : ad742 = ad747 := (by injection e747)
                       replace p747 := eq_true p747
                       replace q747 := eq_true q747
                       have hnb171 := NB743_733.out
                       have hnc171 := NB733_743.out
                       have hnb172 := NB743_734.out
                       have hnc172 := NB734_743.out
                       obtain ⟨hcz173_0, hcz173_1, hcz173_2, hfz173_0, hfz173_1, hfz173_2⟩ := blk3_ BK743.out
                       have p751 : 0 ≤ (x12_6 : Int) := of_decide_eq_true (by first | (with_reducible assumption) | assumption)
                       have q751 : x12_6 < (t739.length : Int) := of_decide_eq_true (by first | (with_reducible assumption) | assumption)
                       obtain ⟨ad751, e751, hx751_0, hx751_1, hx751_2⟩ := at_T37 (Kd.R_reads' HO_5.out).2.2 x12_6 p751 q751
                       obtain rfl : ad742 = ad751 := (by injection e751)
                       replace p751 := eq_true p751
                       replace q751 := eq_true q751
                       go_wp2
                       repeat (go_quiet (fail); try go_wp2)
                       go_roundg k6
                       case measure => have := HJ2.out; have := HK2.out; have := HK3.out; have := HJ85.out; have := HJ96.out; have := HK6.out; omega
                       case rel => exact ⟨(wrap64 (x12_6 + 1)), (by first | rfl | (simp; done) | (simp [*]; done)), H', ⟨by have := HJ2.out; have := HK2.out; have := HK3.out; have := HJ85.out; have := HJ96.out; have := HK6.out; omega⟩, ⟨by (with_reducible repeat (first | apply Kd.R_alloc | apply Kd.R_drewN | apply Kd.R_drew)); exact HO_5.out⟩, ⟨by (with_reducible repeat (first | refine blk_drewN ?_ _ | refine blk_drew ?_ | refine blk_alloc ?_ _)); exact BK733.out⟩, ⟨by (with_reducible repeat (first | refine blk_drewN ?_ _ | refine blk_drew ?_ | refine blk_alloc ?_ _)); exact BK734.out⟩, ⟨by (with_reducible repeat (first | refine blk_drewN ?_ _ | refine blk_drew ?_ | refine blk_alloc ?_ _)); exact BK743.out⟩, ⟨by repeat (first | (with_reducible first | exact HB.out | apply below_alloc | apply pw_below_drewN | apply below_drew1 | refine below_set ?_ GE733.out | refine below_set ?_ GE734.out | refine below_set ?_ GE743.out) | exact HB.out)⟩⟩
                    ·rw [if_neg c156] at H
                     exact absurd H (by simp)
                   ·rw [if_neg c155] at H
                    exact absurd H (by simp)
                  ·rw [if_neg c154] at H
                   have c154b0 : decide (x12_6 < x6_2) = false := decide_eq_false c154
                   clear c154
                   have H' := Aside0.mk H
                   clear H
                   go_wp2
                   repeat (go_quiet (fail); try go_wp2)
                   go_roundg k6
                   case measure => have := HJ2.out; have := HK2.out; have := HK3.out; have := HJ85.out; have := HJ96.out; have := HK6.out; omega
                   case rel => exact ⟨(wrap64 (x6_2 + 1)), (by first | rfl | (simp; done) | (simp [*]; done)), H', ⟨by have := HJ2.out; have := HK2.out; have := HK3.out; have := HJ85.out; have := HJ96.out; have := HK6.out; omega⟩, ⟨by (with_reducible repeat (first | apply Kd.R_alloc | apply Kd.R_drewN | apply Kd.R_drew)); exact Kd.R_mono HO_5.out (fun _ hk => trivial)⟩, ⟨by (with_reducible repeat (first | refine blk_drewN ?_ _ | refine blk_drew ?_ | refine blk_alloc ?_ _)); exact BK733.out⟩, ⟨by (with_reducible repeat (first | refine blk_drewN ?_ _ | refine blk_drew ?_ | refine blk_alloc ?_ _)); exact BK734.out⟩, ⟨by repeat (first | (with_reducible first | exact HB.out | apply below_alloc | apply pw_below_drewN | apply below_drew1 | refine below_set ?_ GE733.out | refine below_set ?_ GE734.out | refine below_set ?_ GE743.out) | exact HB.out)⟩⟩
       ·rw [if_neg c34] at H
        exact absurd H (by simp)
      ·rw [if_neg c33] at H
       have c33b0 : decide (x6_2 < (t739.length : Int)) = false := decide_eq_false c33
       clear c33
       obtain rfl := Option.some.inj H
       obtain ⟨Ao174, co174, eo174⟩ := Kd.R_slice HO_5.out
       subst eo174
       go_wp2
       repeat (go_quiet (fail); try go_wp2)
       go_ret
       exact ⟨by first | rfl | (simp [errW_none, errW_some] <;> rfl) | (simp [*, errW_none, errW_some] <;> rfl), by repeat (first | (with_reducible first | exact HB.out | apply below_alloc | apply pw_below_drewN | apply below_drew1 | refine below_set ?_ GE733.out | refine below_set ?_ GE734.out) | exact HB.out)⟩

end Go.Proofs.Ytlncbckpcmojpaa.P
