/- Written by a program of this session, after the kit's print: Lean functions for Go functions, and the proof that the machine comes to their answers. -/
import Derived.Test.YtlncbckpcmojpaaPx0
import Derived.Test.YtlncbckpcmojpaaMka
import Derived.Test.YtlncbckpcmojpaaPxEntrepotlaw11shown
import Derived.Test.YtlncbckpcmojpaaMki
import Derived.Test.YtlncbckpcmojpaaMkg
namespace Go.Proofs.Ytlncbckpcmojpaa.P
open Go.RowKit Go.Proofs.YtlncbckpcmojpaaW.PrintWords Go.Proofs.YtlncbckpcmojpaaW.PrintLast Go.Proofs.YtlncbckpcmojpaaW.PrintMore
attribute [local go_sem] max2_int min2_int max_two min_two max_three min_three max_four min_four   -- for this text's walks alone
set_option linter.unusedVariables false
set_option linter.unusedSimpArgs false

/-! ### entrepotlaw11_FeasWider: function 9 -/
mutual
def entrepotlaw11_FeasWider.j0 : Nat → Int → Bool → ByteArray → Int → Int → Int → Int → Int → List (S32) → List Int → List (List Int) → Option (Bool)
 | 0, _, _, _, _, _, _, _, _, _, _, _ => none
 | k + 1, x2, x19, x711000, x711001, x711002, x711003, x711004, x711005, x711006, x711007, x712000 => if x19 = true then ((entrepotlaw11_shown.f).bind fun t715 => (some t715)) else ((some (([] : List (S32)) : List (S32))).bind fun y717 => (if y717.length + x711006.length < 2513169434916 then (entrepotlaw11_FeasWider.l0 k x2 0 x711000 x711001 x711002 x711003 x711004 x711005 x711006 x711007 x712000 x711000 x711001 x711002 x711003 x711004 x711005 (y717 ++ x711006) x711007) else (none)))
def entrepotlaw11_FeasWider.l0 : Nat → Int → Int → ByteArray → Int → Int → Int → Int → Int → List (S32) → List Int → List (List Int) → ByteArray → Int → Int → Int → Int → Int → List (S32) → List Int → Option (Bool)
 | 0, _, _, _, _, _, _, _, _, _, _, _, _, _, _, _, _, _, _, _ => none
 | k + 1, x2, x8, x711000, x711001, x711002, x711003, x711004, x711005, x711006, x711007, x712000, x717000, x717001, x717002, x717003, x717004, x717005, x717006, x717007 => if x8 < (x717006.length : Int) then (if x711001 = 3 then (if 0 ≤ x8 then (entrepotlaw11_FeasWider.l0 k x2 (wrap64 (x8 + 1)) x711000 x711001 x711002 x711003 x711004 x711005 x711006 x711007 x712000 x717000 x717001 x717002 x717003 x717004 x717005 (x717006.set (x8 : Int).toNat (⟨(rd_T32 x717006 x8).f0, (rd_T32 x717006 x8).f1, (rd_T32 x717006 x8).f2, (rd_T32 x717006 x8).f3, mn (wrap64 (((rd_T32 x717006 x8).f4) + (wrap64 (x2)))) 100000000, (rd_T32 x717006 x8).f5, (rd_T32 x717006 x8).f6⟩ : S32)) x717007) else (none)) else (if x711001 = 4 then (if 0 ≤ x8 then (entrepotlaw11_FeasWider.l0 k x2 (wrap64 (x8 + 1)) x711000 x711001 x711002 x711003 x711004 x711005 x711006 x711007 x712000 x717000 x717001 x717002 x717003 x717004 x717005 (x717006.set (x8 : Int).toNat (⟨(rd_T32 x717006 x8).f0, (rd_T32 x717006 x8).f1, (rd_T32 x717006 x8).f2, (rd_T32 x717006 x8).f3, mn (wrap64 (((rd_T32 x717006 x8).f4) + (wrap64 (x2)))) 100000000, (rd_T32 x717006 x8).f5, (rd_T32 x717006 x8).f6⟩ : S32)) x717007) else (none)) else (entrepotlaw11_FeasWider.l0 k x2 (wrap64 (x8 + 1)) x711000 x711001 x711002 x711003 x711004 x711005 x711006 x711007 x712000 x717000 x717001 x717002 x717003 x717004 x717005 x717006 x717007))) else (if x711001 = 1 then ((feas_Feasible.f x711000 x711001 x711002 x711003 x711004 x711005 x711006 x711007 x712000).bind fun t727 => (if t727 = true then ((feas_Feasible.f x717000 x717001 x717002 x717003 x717004 x717005 x717006 x717007 x712000).bind fun t728 => (some t728)) else (some true))) else (if x711005 > 0 then ((feas_Feasible.f x711000 x711001 x711002 x711003 x711004 x711005 x711006 x711007 x712000).bind fun t729 => (if t729 = true then ((feas_Feasible.f x717000 x717001 x717002 x717003 (mn (wrap64 (x711004 + (wrap64 (x2)))) 100000000) (mn (wrap64 (x711005 + (wrap64 (x2)))) 400) x717006 x717007 x712000).bind fun t730 => (some t730)) else (some true))) else ((feas_Feasible.f x711000 x711001 x711002 x711003 x711004 x711005 x711006 x711007 x712000).bind fun t731 => (if t731 = true then ((feas_Feasible.f x717000 x717001 x717002 x717003 (mn (wrap64 (x711004 + (wrap64 (x2)))) 100000000) x717005 x717006 x717007 x712000).bind fun t732 => (some t732)) else (some true)))))
end
def entrepotlaw11_FeasWider.f (k : Nat) (a0_0 : ByteArray) (a0_1 : Int) (a0_2 : Int) (a0_3 : Int) (a0_4 : Int) (a0_5 : Int) (l0_6 : List (S32)) (l0_7 : List Int) (l1_0 : List (List Int)) (a2 : Int) : Option (Bool) := (entrepotlaw11_well.f k a0_0 a0_1 a0_2 a0_3 a0_4 a0_5 l0_6 l0_7).bind fun t712 => (if t712 = true then ((entrepotlaw11_long.f k l1_0).bind fun t713 => (if t713 = true then (entrepotlaw11_FeasWider.j0 k a2 true a0_0 a0_1 a0_2 a0_3 a0_4 a0_5 l0_6 l0_7 l1_0) else ((entrepotlaw11_shown.f).bind fun t714 => (entrepotlaw11_FeasWider.j0 k a2 (!t714) a0_0 a0_1 a0_2 a0_3 a0_4 a0_5 l0_6 l0_7 l1_0)))) else (entrepotlaw11_FeasWider.j0 k a2 true a0_0 a0_1 a0_2 a0_3 a0_4 a0_5 l0_6 l0_7 l1_0))
theorem entrepotlaw11_FeasWider.mono_l : ∀ k, (∀ y0 y1 y2 y3 y4 y5 y6 y7 y8 y9 y10, LeO (entrepotlaw11_FeasWider.j0 k y0 y1 y2 y3 y4 y5 y6 y7 y8 y9 y10) (entrepotlaw11_FeasWider.j0 (k + 1) y0 y1 y2 y3 y4 y5 y6 y7 y8 y9 y10)) ∧ (∀ y0 y1 y2 y3 y4 y5 y6 y7 y8 y9 y10 y11 y12 y13 y14 y15 y16 y17 y18, LeO (entrepotlaw11_FeasWider.l0 k y0 y1 y2 y3 y4 y5 y6 y7 y8 y9 y10 y11 y12 y13 y14 y15 y16 y17 y18) (entrepotlaw11_FeasWider.l0 (k + 1) y0 y1 y2 y3 y4 y5 y6 y7 y8 y9 y10 y11 y12 y13 y14 y15 y16 y17 y18))
 | 0 => ⟨fun _ _ _ _ _ _ _ _ _ _ _ r h => by simp [entrepotlaw11_FeasWider.j0] at h, fun _ _ _ _ _ _ _ _ _ _ _ _ _ _ _ _ _ _ _ r h => by simp [entrepotlaw11_FeasWider.l0] at h⟩
 | k + 1 => by
  obtain ⟨ih0, ih1⟩ := entrepotlaw11_FeasWider.mono_l k
  refine ⟨?_, ?_⟩
  ·intro y0 y1 y2 y3 y4 y5 y6 y7 y8 y9 y10
   unfold entrepotlaw11_FeasWider.j0
   repeat' first
   | (with_reducible exact ih0 _ _ _ _ _ _ _ _ _ _ _)
   | (with_reducible exact ih1 _ _ _ _ _ _ _ _ _ _ _ _ _ _ _ _ _ _ _)
   | (with_reducible exact entrepotlaw11_long.mono _ _)
   | (with_reducible exact entrepotlaw11_well.mono _ _ _ _ _ _ _ _ _)
   | (with_reducible exact LeO.refl _)
   | (with_reducible exact LeO.none _)
   | (with_reducible refine LeO.ite ?_ ?_)
   | (with_reducible refine LeO.bind ?_ (fun _ => ?_))
   | exact ih0 _ _ _ _ _ _ _ _ _ _ _
   | exact ih1 _ _ _ _ _ _ _ _ _ _ _ _ _ _ _ _ _ _ _
   | exact entrepotlaw11_long.mono _ _
   | exact entrepotlaw11_well.mono _ _ _ _ _ _ _ _ _
   | exact LeO.none _
   | refine LeO.ite ?_ ?_
   | refine LeO.bind ?_ (fun _ => ?_)
  ·intro y0 y1 y2 y3 y4 y5 y6 y7 y8 y9 y10 y11 y12 y13 y14 y15 y16 y17 y18
   unfold entrepotlaw11_FeasWider.l0
   repeat' first
   | (with_reducible exact ih0 _ _ _ _ _ _ _ _ _ _ _)
   | (with_reducible exact ih1 _ _ _ _ _ _ _ _ _ _ _ _ _ _ _ _ _ _ _)
   | (with_reducible exact entrepotlaw11_long.mono _ _)
   | (with_reducible exact entrepotlaw11_well.mono _ _ _ _ _ _ _ _ _)
   | (with_reducible exact LeO.refl _)
   | (with_reducible exact LeO.none _)
   | (with_reducible refine LeO.ite ?_ ?_)
   | (with_reducible refine LeO.bind ?_ (fun _ => ?_))
   | exact ih0 _ _ _ _ _ _ _ _ _ _ _
   | exact ih1 _ _ _ _ _ _ _ _ _ _ _ _ _ _ _ _ _ _ _
   | exact entrepotlaw11_long.mono _ _
   | exact entrepotlaw11_well.mono _ _ _ _ _ _ _ _ _
   | exact LeO.none _
   | refine LeO.ite ?_ ?_
   | refine LeO.bind ?_ (fun _ => ?_)
theorem entrepotlaw11_FeasWider.mono : ∀ a0 a1 a2 a3 a4 a5 a6 a7 a8 a9 k, LeO (entrepotlaw11_FeasWider.f k a0 a1 a2 a3 a4 a5 a6 a7 a8 a9) (entrepotlaw11_FeasWider.f (k + 1) a0 a1 a2 a3 a4 a5 a6 a7 a8 a9) := by
 intro a0 a1 a2 a3 a4 a5 a6 a7 a8 a9 k
 obtain ⟨ih0, ih1⟩ := entrepotlaw11_FeasWider.mono_l k
 unfold entrepotlaw11_FeasWider.f
 repeat' first
   | (with_reducible exact ih0 _ _ _ _ _ _ _ _ _ _ _)
   | (with_reducible exact ih1 _ _ _ _ _ _ _ _ _ _ _ _ _ _ _ _ _ _ _)
   | (with_reducible exact entrepotlaw11_long.mono _ _)
   | (with_reducible exact entrepotlaw11_well.mono _ _ _ _ _ _ _ _ _)
   | (with_reducible exact LeO.refl _)
   | (with_reducible exact LeO.none _)
   | (with_reducible refine LeO.ite ?_ ?_)
   | (with_reducible refine LeO.bind ?_ (fun _ => ?_))
   | exact ih0 _ _ _ _ _ _ _ _ _ _ _
   | exact ih1 _ _ _ _ _ _ _ _ _ _ _ _ _ _ _ _ _ _ _
   | exact entrepotlaw11_long.mono _ _
   | exact entrepotlaw11_well.mono _ _ _ _ _ _ _ _ _
   | exact LeO.none _
   | refine LeO.ite ?_ ?_
   | refine LeO.bind ?_ (fun _ => ?_)
def entrepotlaw11_FeasWider.T9 : Bool × List (List Nat × List Nat) := (true, [([], []), ([0], [0]), ([], []), ([], []), ([3], [3]), ([], []), ([4, 5], [4, 5]), ([6], [6]), ([7], [7]), ([], []), ([9], [9]), ([8, 10], [8, 10]), ([11], [11]), ([1, 2, 0, 1, 2, 3, 4, 5, 6, 7, 8, 9, 10, 11, 12], [1, 2]), ([13, 0, 1, 2, 3, 4, 5, 6, 7, 8, 9, 10, 11, 12], [13]), ([14, 12, 0, 1, 2, 3, 4, 5, 6, 7, 8, 9, 10, 11, 12], [12, 14])])
def entrepotlaw11_FeasWider.B9 : List Nat := [0, 1, 0, 0, 8, 0, 56, 120, 248, 0, 512, 2040, 4088, 8191, 16383, 32767]
theorem entrepotlaw11_FeasWider.tab9 : rtab .any (opsOf Try.f9 9) = entrepotlaw11_FeasWider.T9 := by kernel_rfl
theorem entrepotlaw11_FeasWider.bits9 : waitsOk entrepotlaw11_FeasWider.T9.2 entrepotlaw11_FeasWider.B9 = true := by kernel_rfl
set_option maxHeartbeats 60000000 in
set_option maxRecDepth 100000 in
theorem entrepotlaw11_FeasWider.callsT (k : Nat) (a0_0 : ByteArray) (a0_1 : Int) (a0_2 : Int) (a0_3 : Int) (a0_4 : Int) (a0_5 : Int) (A0_6 : Option Addr) (c0_6 : Nat) (l0_6 : List (S32)) (A0_7 : Option Addr) (c0_7 : Nat) (l0_7 : List Int) (A1_0 : Option Addr) (c1_0 : Nat) (l1_0 : List (List Int)) (a2 : Int) (r : Bool) (w : World) (hr0_6 : Kd.C k32 w A0_6 l0_6.length l0_6) (hc0_6 : l0_6.length ≤ c0_6) (hr0_7 : Kd.C (Kd.int .i64) w A0_7 l0_7.length l0_7) (hc0_7 : l0_7.length ≤ c0_7) (hr1_0 : Kd.C (Kd.slice 3 (Kd.int .i64)) w A1_0 l1_0.length l1_0) (hc1_0 : l1_0.length ≤ c1_0) (h : entrepotlaw11_FeasWider.f k a0_0 a0_1 a0_2 a0_3 a0_4 a0_5 l0_6 l0_7 l1_0 a2 = some r) (hr_ : Aside0 (r = true)) :
  Calls Try.prog 9 #[.agg #[.string a0_0, .int .i64 a0_1, .int .i64 a0_2, .int .i64 a0_3, .int .i64 a0_4, .int .i64 a0_5, .slice A0_6 l0_6.length c0_6, .slice A0_7 l0_7.length c0_7], .agg #[.slice A1_0 l1_0.length c1_0], .int .u16 a2] w fun e w' => e = .returned (.bool r) ∧ Below w.heap.size w w' := by
 have hu25 := Try.underlying25
 have hu30 := Try.underlying30
 have HR0_6 := Aside0.mk hr0_6
 have HC0_6 := Aside0.mk hc0_6
 clear hr0_6 hc0_6
 have HR0_7 := Aside0.mk hr0_7
 have HC0_7 := Aside0.mk hc0_7
 clear hr0_7 hc0_7
 have HR1_0 := Aside0.mk hr1_0
 have HC1_0 := Aside0.mk hc1_0
 clear hr1_0 hc1_0
 have HB := Aside0.mk (Below.refl w.heap.size w)
 have H : ((entrepotlaw11_well.f k a0_0 a0_1 a0_2 a0_3 a0_4 a0_5 l0_6 l0_7).bind fun t712 => (if t712 = true then ((entrepotlaw11_long.f k l1_0).bind fun t713 => (if t713 = true then (entrepotlaw11_FeasWider.j0 k a2 true a0_0 a0_1 a0_2 a0_3 a0_4 a0_5 l0_6 l0_7 l1_0) else ((entrepotlaw11_shown.f).bind fun t714 => (entrepotlaw11_FeasWider.j0 k a2 (!t714) a0_0 a0_1 a0_2 a0_3 a0_4 a0_5 l0_6 l0_7 l1_0)))) else (entrepotlaw11_FeasWider.j0 k a2 true a0_0 a0_1 a0_2 a0_3 a0_4 a0_5 l0_6 l0_7 l1_0))) = some r := h
 clear h
 have HC4 := Aside0.mk H
 clear H
 go_enter Try.func9, Try.ntmps9
 go_upto_region 1 with (first | ((with_reducible refine gate_dst (N := 3) rfl ?_); refine box_event ?hg (N := 3) ?hd (cs := #[.string a0_0, .int .i64 a0_1, .int .i64 a0_2, .int .i64 a0_3, .int .i64 a0_4, .int .i64 a0_5, .slice A0_6 l0_6.length c0_6, .slice A0_7 l0_7.length c0_7]) (t := 25) ?hr ?_; (case hd => rfl); (case hg => rfl); (case hr => first | (go_simp; done) | (go_simp; rfl)); intro gb710 hg w5 hbox hb; have n0_ := Aside0.mk (below_step (by repeat (first | (with_reducible first | exact HB.out | apply below_alloc | apply pw_below_drewN | apply below_drew1) | exact HB.out)) hb); have n1_ := Aside0.mk (hbox); have n2_ := Aside0.mk ((by rw [hg]; exact (below_size (by repeat (first | (with_reducible first | exact HB.out | apply below_alloc | apply pw_below_drewN | apply below_drew1) | exact HB.out))) : w.heap.size ≤ gb710)); have n3_ := Aside0.mk ((by rw [hg]; exact (below_size (by repeat (first | (with_reducible first | exact HB.out | apply below_alloc | apply pw_below_drewN | apply below_drew1) | exact HB.out))) : w.heap.size ≤ gb710)); clear HB; have HB := n0_; have BK710 := n1_; have GW710 := n2_; have GE710 := n3_; clear n0_ n1_ n2_ n3_; clear hb hbox hg) | ((with_reducible refine gate_dst (N := 4) rfl ?_); refine box_event ?hg (N := 4) ?hd (cs := #[.slice A1_0 l1_0.length c1_0]) (t := 30) ?hr ?_; (case hd => rfl); (case hg => rfl); (case hr => first | (go_simp; done) | (go_simp; rfl)); intro gb711 hg w6 hbox hb; have n0_ := Aside0.mk (blk_below (g := gb710) (o := .cells #[.string a0_0, .int .i64 a0_1, .int .i64 a0_2, .int .i64 a0_3, .int .i64 a0_4, .int .i64 a0_5, .slice A0_6 l0_6.length c0_6, .slice A0_7 l0_7.length c0_7] 25 (0, 0)) (by (with_reducible repeat (first | refine blk_drewN ?_ _ | refine blk_drew ?_ | refine blk_alloc ?_ _)); exact BK710.out) hb); have n1_ := Aside0.mk (below_step (by repeat (first | (with_reducible first | exact HB.out | apply below_alloc | apply pw_below_drewN | apply below_drew1 | refine below_set ?_ GE710.out) | exact HB.out)) hb); have n2_ := Aside0.mk (hbox); have n3_ := Aside0.mk ((by rw [hg]; exact (below_size (by repeat (first | (with_reducible first | exact HB.out | apply below_alloc | apply pw_below_drewN | apply below_drew1 | refine below_set ?_ GE710.out) | exact HB.out))) : w.heap.size ≤ gb711)); have n4_ := Aside0.mk ((by rw [hg]; exact (below_size (by repeat (first | (with_reducible first | exact HB.out | apply below_alloc | apply pw_below_drewN | apply below_drew1 | refine below_set ?_ GE710.out) | exact HB.out))) : w.heap.size ≤ gb711)); have n5_ := Aside0.mk ((by rw [hg]; exact Nat.ne_of_lt (blk_lt (g := gb710) (o := .cells #[.string a0_0, .int .i64 a0_1, .int .i64 a0_2, .int .i64 a0_3, .int .i64 a0_4, .int .i64 a0_5, .slice A0_6 l0_6.length c0_6, .slice A0_7 l0_7.length c0_7] 25 (0, 0)) (by (with_reducible repeat (first | refine blk_drewN ?_ _ | refine blk_drew ?_ | refine blk_alloc ?_ _)); exact BK710.out)) : gb710 ≠ gb711)); have n6_ := Aside0.mk ((by rw [hg]; exact Nat.ne_of_gt (blk_lt (g := gb710) (o := .cells #[.string a0_0, .int .i64 a0_1, .int .i64 a0_2, .int .i64 a0_3, .int .i64 a0_4, .int .i64 a0_5, .slice A0_6 l0_6.length c0_6, .slice A0_7 l0_7.length c0_7] 25 (0, 0)) (by (with_reducible repeat (first | refine blk_drewN ?_ _ | refine blk_drew ?_ | refine blk_alloc ?_ _)); exact BK710.out)) : gb711 ≠ gb710)); clear BK710; clear HB; have BK710 := n0_; have HB := n1_; have BK711 := n2_; have GW711 := n3_; have GE711 := n4_; have NB710_711 := n5_; have NB711_710 := n6_; clear n0_ n1_ n2_ n3_ n4_ n5_ n6_; clear hb hbox hg))
 (try simp only [Act.put, List.setIfInBounds_toArray, List.set_cons_zero, List.set_cons_succ])
 go_cut [19] (fun v19 wc => ∃ (kq : Nat) (x19_3 : Bool), v19 = .bool x19_3 ∧ Aside0 (entrepotlaw11_FeasWider.j0 kq a2 x19_3 a0_0 a0_1 a0_2 a0_3 a0_4 a0_5 l0_6 l0_7 l1_0 = some r) ∧ Aside0 (kq ≤ k) ∧ Aside0 (wc.heap[gb710]? = some (.cells #[.string a0_0, .int .i64 a0_1, .int .i64 a0_2, .int .i64 a0_3, .int .i64 a0_4, .int .i64 a0_5, (.slice A0_6 l0_6.length c0_6), (.slice A0_7 l0_7.length c0_7)] 25 (0, 0))) ∧ Aside0 (wc.heap[gb711]? = some (.cells #[(.slice A1_0 l1_0.length c1_0)] 30 (0, 0))) ∧ Aside0 (Below w.heap.size w wc))
 case first => as_aux_lemma =>
  have H := HC4.out
  clear HC4
  replace H := Option.bind_eq_some_iff.mp H
  obtain ⟨t712, A70, H⟩ := H
  replace H : (if t712 = true then ((entrepotlaw11_long.f k l1_0).bind fun t713 => (if t713 = true then (entrepotlaw11_FeasWider.j0 k a2 true a0_0 a0_1 a0_2 a0_3 a0_4 a0_5 l0_6 l0_7 l1_0) else ((entrepotlaw11_shown.f).bind fun t714 => (entrepotlaw11_FeasWider.j0 k a2 (!t714) a0_0 a0_1 a0_2 a0_3 a0_4 a0_5 l0_6 l0_7 l1_0)))) else (entrepotlaw11_FeasWider.j0 k a2 true a0_0 a0_1 a0_2 a0_3 a0_4 a0_5 l0_6 l0_7 l1_0)) = some r := H
  have A7 := Aside0.mk A70
  clear A70
  by_cases c8 : t712 = true
  ·subst c8
   have H1 : ((entrepotlaw11_long.f k l1_0).bind fun t713 => (if t713 = true then (entrepotlaw11_FeasWider.j0 k a2 true a0_0 a0_1 a0_2 a0_3 a0_4 a0_5 l0_6 l0_7 l1_0) else ((entrepotlaw11_shown.f).bind fun t714 => (entrepotlaw11_FeasWider.j0 k a2 (!t714) a0_0 a0_1 a0_2 a0_3 a0_4 a0_5 l0_6 l0_7 l1_0)))) = some r := by rw [if_pos rfl] at H; exact H
   clear H
   have H := H1
   clear H1
   replace H := Option.bind_eq_some_iff.mp H
   obtain ⟨t713, A90, H⟩ := H
   replace H : (if t713 = true then (entrepotlaw11_FeasWider.j0 k a2 true a0_0 a0_1 a0_2 a0_3 a0_4 a0_5 l0_6 l0_7 l1_0) else ((entrepotlaw11_shown.f).bind fun t714 => (entrepotlaw11_FeasWider.j0 k a2 (!t714) a0_0 a0_1 a0_2 a0_3 a0_4 a0_5 l0_6 l0_7 l1_0))) = some r := H
   have A9 := Aside0.mk A90
   clear A90
   by_cases c10 : t713 = true
   ·subst c10
    have H1 : (entrepotlaw11_FeasWider.j0 k a2 true a0_0 a0_1 a0_2 a0_3 a0_4 a0_5 l0_6 l0_7 l1_0) = some r := by rw [if_pos rfl] at H; exact H
    clear H
    have H := H1
    clear H1
    have H' := Aside0.mk H
    clear H
    have hnb11 := NB710_711.out
    have hnc11 := NB711_710.out
    obtain ⟨hcz12_0, hcz12_1, hcz12_2, hcz12_3, hcz12_4, hcz12_5, hcz12_6, hcz12_7, hfz12_0, hfz12_1, hfz12_2, hfz12_3, hfz12_4, hfz12_5, hfz12_6, hfz12_7⟩ := blk8_ BK710.out
    go_wp2_with (first | ((with_reducible refine gate_callee (f := 11) rfl ?_); refine goesL_ (some 10) rfl rfl Try.func11 (by kernel_rfl) rfl #[.agg #[.string a0_0, .int .i64 a0_1, .int .i64 a0_2, .int .i64 a0_3, .int .i64 a0_4, .int .i64 a0_5, .slice A0_6 l0_6.length c0_6, .slice A0_7 l0_7.length c0_7]] rfl (by (try simp only [List.map_toArray, List.map_cons, List.map_nil]); first | done | rfl | (simp only [List.length_drop, List.length_take]; rfl)) ?_; (with_reducible refine (entrepotlaw11_well.calls k a0_0 a0_1 a0_2 a0_3 a0_4 a0_5 _ _ l0_6 _ _ l0_7 true _ ?side1 ?side2 ?side3 ?side4 A7.out).mono ?_); (case side1 => repeat (first | exact (Kd.C_below HR0_6.out HB.out) | (with_reducible refine Kd.C_alloc ?_ _) | (with_reducible refine Kd.C_drewN ?_ _) | (with_reducible refine Kd.C_drew ?_))); (case side2 => exact HC0_6.out); (case side3 => repeat (first | exact (Kd.C_below HR0_7.out HB.out) | (with_reducible refine Kd.C_alloc ?_ _) | (with_reducible refine Kd.C_drewN ?_ _) | (with_reducible refine Kd.C_drew ?_))); (case side4 => exact HC0_7.out); rintro e w13 ⟨rfl, hb⟩; refine ⟨_, rfl, ?_⟩; have n0_ := Aside0.mk (blk_below (g := gb710) (o := .cells #[.string a0_0, .int .i64 a0_1, .int .i64 a0_2, .int .i64 a0_3, .int .i64 a0_4, .int .i64 a0_5, .slice A0_6 l0_6.length c0_6, .slice A0_7 l0_7.length c0_7] 25 (0, 0)) (by (with_reducible repeat (first | refine blk_drewN ?_ _ | refine blk_drew ?_ | refine blk_alloc ?_ _)); exact BK710.out) hb); have n1_ := Aside0.mk (blk_below (g := gb711) (o := .cells #[.slice A1_0 l1_0.length c1_0] 30 (0, 0)) (by (with_reducible repeat (first | refine blk_drewN ?_ _ | refine blk_drew ?_ | refine blk_alloc ?_ _)); exact BK711.out) hb); have n2_ := Aside0.mk (below_step (by repeat (first | (with_reducible first | exact HB.out | apply below_alloc | apply pw_below_drewN | apply below_drew1 | refine below_set ?_ GE710.out | refine below_set ?_ GE711.out) | exact HB.out)) hb); clear BK710; clear BK711; clear HB; have BK710 := n0_; have BK711 := n1_; have HB := n2_; clear n0_ n1_ n2_; (try clear hb); (try clear hb2); (try clear hk); (try clear hi); obtain ⟨hcz14_0, hfz14_0⟩ := blk1_ BK711.out) | (go_at_call 15; (with_reducible refine (entrepotlaw11_long.calls k _ _ l1_0 true _ ?side1 ?side2 A9.out).mono ?_); (case side1 => repeat (first | exact (Kd.C_below HR1_0.out HB.out) | (with_reducible refine Kd.C_alloc ?_ _) | (with_reducible refine Kd.C_drewN ?_ _) | (with_reducible refine Kd.C_drew ?_))); (case side2 => exact HC1_0.out); rintro e w15 ⟨rfl, hb⟩; have n0_ := Aside0.mk (blk_below (g := gb710) (o := .cells #[.string a0_0, .int .i64 a0_1, .int .i64 a0_2, .int .i64 a0_3, .int .i64 a0_4, .int .i64 a0_5, .slice A0_6 l0_6.length c0_6, .slice A0_7 l0_7.length c0_7] 25 (0, 0)) (by (with_reducible repeat (first | refine blk_drewN ?_ _ | refine blk_drew ?_ | refine blk_alloc ?_ _)); exact BK710.out) hb); have n1_ := Aside0.mk (blk_below (g := gb711) (o := .cells #[.slice A1_0 l1_0.length c1_0] 30 (0, 0)) (by (with_reducible repeat (first | refine blk_drewN ?_ _ | refine blk_drew ?_ | refine blk_alloc ?_ _)); exact BK711.out) hb); have n2_ := Aside0.mk (below_step (by repeat (first | (with_reducible first | exact HB.out | apply below_alloc | apply pw_below_drewN | apply below_drew1 | refine below_set ?_ GE710.out | refine below_set ?_ GE711.out) | exact HB.out)) hb); clear BK710; clear BK711; clear HB; have BK710 := n0_; have BK711 := n1_; have HB := n2_; clear n0_ n1_ n2_; (try clear hb); (try clear hb2); (try clear hk); (try clear hi)))
    go_meet
    case rel => exact ⟨_, (true), (by first | rfl | (simp; done) | (simp [*]; done)), H', ⟨by first | omega | exact Nat.le_refl _⟩, ⟨by (with_reducible repeat (first | refine blk_drewN ?_ _ | refine blk_drew ?_ | refine blk_alloc ?_ _)); exact BK710.out⟩, ⟨by (with_reducible repeat (first | refine blk_drewN ?_ _ | refine blk_drew ?_ | refine blk_alloc ?_ _)); exact BK711.out⟩, ⟨by repeat (first | (with_reducible first | exact HB.out | apply below_alloc | apply pw_below_drewN | apply below_drew1 | refine below_set ?_ GE710.out | refine below_set ?_ GE711.out) | exact HB.out)⟩⟩
   ·replace c10 := Bool.eq_false_iff.mpr c10
    subst c10
    have H1 : ((entrepotlaw11_shown.f).bind fun t714 => (entrepotlaw11_FeasWider.j0 k a2 (!t714) a0_0 a0_1 a0_2 a0_3 a0_4 a0_5 l0_6 l0_7 l1_0)) = some r := by rw [if_neg (show ¬ (false = true) by decide)] at H; exact H
    clear H
    have H := H1
    clear H1
    replace H := Option.bind_eq_some_iff.mp H
    obtain ⟨t714, A160, H⟩ := H
    replace H : (entrepotlaw11_FeasWider.j0 k a2 (!t714) a0_0 a0_1 a0_2 a0_3 a0_4 a0_5 l0_6 l0_7 l1_0) = some r := H
    have A16 := Aside0.mk A160
    clear A160
    have H' := Aside0.mk H
    clear H
    have hnb17 := NB710_711.out
    have hnc17 := NB711_710.out
    obtain ⟨hcz18_0, hcz18_1, hcz18_2, hcz18_3, hcz18_4, hcz18_5, hcz18_6, hcz18_7, hfz18_0, hfz18_1, hfz18_2, hfz18_3, hfz18_4, hfz18_5, hfz18_6, hfz18_7⟩ := blk8_ BK710.out
    go_wp2_with (first | ((with_reducible refine gate_callee (f := 11) rfl ?_); refine goesL_ (some 10) rfl rfl Try.func11 (by kernel_rfl) rfl #[.agg #[.string a0_0, .int .i64 a0_1, .int .i64 a0_2, .int .i64 a0_3, .int .i64 a0_4, .int .i64 a0_5, .slice A0_6 l0_6.length c0_6, .slice A0_7 l0_7.length c0_7]] rfl (by (try simp only [List.map_toArray, List.map_cons, List.map_nil]); first | done | rfl | (simp only [List.length_drop, List.length_take]; rfl)) ?_; (with_reducible refine (entrepotlaw11_well.calls k a0_0 a0_1 a0_2 a0_3 a0_4 a0_5 _ _ l0_6 _ _ l0_7 true _ ?side1 ?side2 ?side3 ?side4 A7.out).mono ?_); (case side1 => repeat (first | exact (Kd.C_below HR0_6.out HB.out) | (with_reducible refine Kd.C_alloc ?_ _) | (with_reducible refine Kd.C_drewN ?_ _) | (with_reducible refine Kd.C_drew ?_))); (case side2 => exact HC0_6.out); (case side3 => repeat (first | exact (Kd.C_below HR0_7.out HB.out) | (with_reducible refine Kd.C_alloc ?_ _) | (with_reducible refine Kd.C_drewN ?_ _) | (with_reducible refine Kd.C_drew ?_))); (case side4 => exact HC0_7.out); rintro e w19 ⟨rfl, hb⟩; refine ⟨_, rfl, ?_⟩; have n0_ := Aside0.mk (blk_below (g := gb710) (o := .cells #[.string a0_0, .int .i64 a0_1, .int .i64 a0_2, .int .i64 a0_3, .int .i64 a0_4, .int .i64 a0_5, .slice A0_6 l0_6.length c0_6, .slice A0_7 l0_7.length c0_7] 25 (0, 0)) (by (with_reducible repeat (first | refine blk_drewN ?_ _ | refine blk_drew ?_ | refine blk_alloc ?_ _)); exact BK710.out) hb); have n1_ := Aside0.mk (blk_below (g := gb711) (o := .cells #[.slice A1_0 l1_0.length c1_0] 30 (0, 0)) (by (with_reducible repeat (first | refine blk_drewN ?_ _ | refine blk_drew ?_ | refine blk_alloc ?_ _)); exact BK711.out) hb); have n2_ := Aside0.mk (below_step (by repeat (first | (with_reducible first | exact HB.out | apply below_alloc | apply pw_below_drewN | apply below_drew1 | refine below_set ?_ GE710.out | refine below_set ?_ GE711.out) | exact HB.out)) hb); clear BK710; clear BK711; clear HB; have BK710 := n0_; have BK711 := n1_; have HB := n2_; clear n0_ n1_ n2_; (try clear hb); (try clear hb2); (try clear hk); (try clear hi); obtain ⟨hcz20_0, hfz20_0⟩ := blk1_ BK711.out) | (go_at_call 15; (with_reducible refine (entrepotlaw11_long.calls k _ _ l1_0 false _ ?side1 ?side2 A9.out).mono ?_); (case side1 => repeat (first | exact (Kd.C_below HR1_0.out HB.out) | (with_reducible refine Kd.C_alloc ?_ _) | (with_reducible refine Kd.C_drewN ?_ _) | (with_reducible refine Kd.C_drew ?_))); (case side2 => exact HC1_0.out); rintro e w21 ⟨rfl, hb⟩; have n0_ := Aside0.mk (blk_below (g := gb710) (o := .cells #[.string a0_0, .int .i64 a0_1, .int .i64 a0_2, .int .i64 a0_3, .int .i64 a0_4, .int .i64 a0_5, .slice A0_6 l0_6.length c0_6, .slice A0_7 l0_7.length c0_7] 25 (0, 0)) (by (with_reducible repeat (first | refine blk_drewN ?_ _ | refine blk_drew ?_ | refine blk_alloc ?_ _)); exact BK710.out) hb); have n1_ := Aside0.mk (blk_below (g := gb711) (o := .cells #[.slice A1_0 l1_0.length c1_0] 30 (0, 0)) (by (with_reducible repeat (first | refine blk_drewN ?_ _ | refine blk_drew ?_ | refine blk_alloc ?_ _)); exact BK711.out) hb); have n2_ := Aside0.mk (below_step (by repeat (first | (with_reducible first | exact HB.out | apply below_alloc | apply pw_below_drewN | apply below_drew1 | refine below_set ?_ GE710.out | refine below_set ?_ GE711.out) | exact HB.out)) hb); clear BK710; clear BK711; clear HB; have BK710 := n0_; have BK711 := n1_; have HB := n2_; clear n0_ n1_ n2_; (try clear hb); (try clear hb2); (try clear hk); (try clear hi)) | (go_at_call 12; (with_reducible refine (entrepotlaw11_shown.calls  t714 _ A16.out).mono ?_); rintro e w22 ⟨rfl, hb⟩; have n0_ := Aside0.mk (blk_below (g := gb710) (o := .cells #[.string a0_0, .int .i64 a0_1, .int .i64 a0_2, .int .i64 a0_3, .int .i64 a0_4, .int .i64 a0_5, .slice A0_6 l0_6.length c0_6, .slice A0_7 l0_7.length c0_7] 25 (0, 0)) (by (with_reducible repeat (first | refine blk_drewN ?_ _ | refine blk_drew ?_ | refine blk_alloc ?_ _)); exact BK710.out) hb); have n1_ := Aside0.mk (blk_below (g := gb711) (o := .cells #[.slice A1_0 l1_0.length c1_0] 30 (0, 0)) (by (with_reducible repeat (first | refine blk_drewN ?_ _ | refine blk_drew ?_ | refine blk_alloc ?_ _)); exact BK711.out) hb); have n2_ := Aside0.mk (below_step (by repeat (first | (with_reducible first | exact HB.out | apply below_alloc | apply pw_below_drewN | apply below_drew1 | refine below_set ?_ GE710.out | refine below_set ?_ GE711.out) | exact HB.out)) hb); clear BK710; clear BK711; clear HB; have BK710 := n0_; have BK711 := n1_; have HB := n2_; clear n0_ n1_ n2_; (try clear hb); (try clear hb2); (try clear hk); (try clear hi)))
    go_meet
    case rel => exact ⟨_, (!t714), (by first | rfl | (simp; done) | (simp [*]; done)), H', ⟨by first | omega | exact Nat.le_refl _⟩, ⟨by (with_reducible repeat (first | refine blk_drewN ?_ _ | refine blk_drew ?_ | refine blk_alloc ?_ _)); exact BK710.out⟩, ⟨by (with_reducible repeat (first | refine blk_drewN ?_ _ | refine blk_drew ?_ | refine blk_alloc ?_ _)); exact BK711.out⟩, ⟨by repeat (first | (with_reducible first | exact HB.out | apply below_alloc | apply pw_below_drewN | apply below_drew1 | refine below_set ?_ GE710.out | refine below_set ?_ GE711.out) | exact HB.out)⟩⟩
  ·replace c8 := Bool.eq_false_iff.mpr c8
   subst c8
   have H1 : (entrepotlaw11_FeasWider.j0 k a2 true a0_0 a0_1 a0_2 a0_3 a0_4 a0_5 l0_6 l0_7 l1_0) = some r := by rw [if_neg (show ¬ (false = true) by decide)] at H; exact H
   clear H
   have H := H1
   clear H1
   have H' := Aside0.mk H
   clear H
   have hnb23 := NB710_711.out
   have hnc23 := NB711_710.out
   obtain ⟨hcz24_0, hcz24_1, hcz24_2, hcz24_3, hcz24_4, hcz24_5, hcz24_6, hcz24_7, hfz24_0, hfz24_1, hfz24_2, hfz24_3, hfz24_4, hfz24_5, hfz24_6, hfz24_7⟩ := blk8_ BK710.out
   go_wp2_with (first | ((with_reducible refine gate_callee (f := 11) rfl ?_); refine goesL_ (some 10) rfl rfl Try.func11 (by kernel_rfl) rfl #[.agg #[.string a0_0, .int .i64 a0_1, .int .i64 a0_2, .int .i64 a0_3, .int .i64 a0_4, .int .i64 a0_5, .slice A0_6 l0_6.length c0_6, .slice A0_7 l0_7.length c0_7]] rfl (by (try simp only [List.map_toArray, List.map_cons, List.map_nil]); first | done | rfl | (simp only [List.length_drop, List.length_take]; rfl)) ?_; (with_reducible refine (entrepotlaw11_well.calls k a0_0 a0_1 a0_2 a0_3 a0_4 a0_5 _ _ l0_6 _ _ l0_7 false _ ?side1 ?side2 ?side3 ?side4 A7.out).mono ?_); (case side1 => repeat (first | exact (Kd.C_below HR0_6.out HB.out) | (with_reducible refine Kd.C_alloc ?_ _) | (with_reducible refine Kd.C_drewN ?_ _) | (with_reducible refine Kd.C_drew ?_))); (case side2 => exact HC0_6.out); (case side3 => repeat (first | exact (Kd.C_below HR0_7.out HB.out) | (with_reducible refine Kd.C_alloc ?_ _) | (with_reducible refine Kd.C_drewN ?_ _) | (with_reducible refine Kd.C_drew ?_))); (case side4 => exact HC0_7.out); rintro e w25 ⟨rfl, hb⟩; refine ⟨_, rfl, ?_⟩; have n0_ := Aside0.mk (blk_below (g := gb710) (o := .cells #[.string a0_0, .int .i64 a0_1, .int .i64 a0_2, .int .i64 a0_3, .int .i64 a0_4, .int .i64 a0_5, .slice A0_6 l0_6.length c0_6, .slice A0_7 l0_7.length c0_7] 25 (0, 0)) (by (with_reducible repeat (first | refine blk_drewN ?_ _ | refine blk_drew ?_ | refine blk_alloc ?_ _)); exact BK710.out) hb); have n1_ := Aside0.mk (blk_below (g := gb711) (o := .cells #[.slice A1_0 l1_0.length c1_0] 30 (0, 0)) (by (with_reducible repeat (first | refine blk_drewN ?_ _ | refine blk_drew ?_ | refine blk_alloc ?_ _)); exact BK711.out) hb); have n2_ := Aside0.mk (below_step (by repeat (first | (with_reducible first | exact HB.out | apply below_alloc | apply pw_below_drewN | apply below_drew1 | refine below_set ?_ GE710.out | refine below_set ?_ GE711.out) | exact HB.out)) hb); clear BK710; clear BK711; clear HB; have BK710 := n0_; have BK711 := n1_; have HB := n2_; clear n0_ n1_ n2_; (try clear hb); (try clear hb2); (try clear hk); (try clear hi)))
   go_meet
   case rel => exact ⟨_, (true), (by first | rfl | (simp; done) | (simp [*]; done)), H', ⟨by first | omega | exact Nat.le_refl _⟩, ⟨by (with_reducible repeat (first | refine blk_drewN ?_ _ | refine blk_drew ?_ | refine blk_alloc ?_ _)); exact BK710.out⟩, ⟨by (with_reducible repeat (first | refine blk_drewN ?_ _ | refine blk_drew ?_ | refine blk_alloc ?_ _)); exact BK711.out⟩, ⟨by repeat (first | (with_reducible first | exact HB.out | apply below_alloc | apply pw_below_drewN | apply below_drew1 | refine below_set ?_ GE710.out | refine below_set ?_ GE711.out) | exact HB.out)⟩⟩
 case rest => as_aux_lemma =>
  clear HC4
  obtain ⟨kq, x19_3, rfl, HA, HJ3, BK710, BK711, HB⟩ := hcut
  cases kq with
  | zero => exact absurd HA.out (by simp [entrepotlaw11_FeasWider.j0])
  | succ kj3 =>
   have H := HA.out
   clear HA
   simp only [entrepotlaw11_FeasWider.j0] at H
   by_cases c26 : x19_3 = true
   ·subst c26
    have H1 : ((entrepotlaw11_shown.f).bind fun t715 => (some t715)) = some r := by rw [if_pos rfl] at H; exact H
    clear H
    have H := H1
    clear H1
    replace H := Option.bind_eq_some_iff.mp H
    obtain ⟨t715, A270, H⟩ := H
    replace H : (some t715) = some r := H
    have A27 := Aside0.mk A270
    clear A270
    obtain rfl := Option.some.inj H
    go_wp2_with (first | ((with_reducible refine gate_callee (f := 12) rfl ?_); refine goesL_ (some 20) rfl rfl Try.func12 (by kernel_rfl) rfl #[] rfl (by (try simp only [List.map_toArray, List.map_cons, List.map_nil]); first | done | rfl | (simp only [List.length_drop, List.length_take]; rfl)) ?_; (with_reducible refine (entrepotlaw11_shown.calls  t715 _ A27.out).mono ?_); rintro e w28 ⟨rfl, hb⟩; refine ⟨_, rfl, ?_⟩; have n0_ := Aside0.mk (blk_below (g := gb710) (o := .cells #[.string a0_0, .int .i64 a0_1, .int .i64 a0_2, .int .i64 a0_3, .int .i64 a0_4, .int .i64 a0_5, .slice A0_6 l0_6.length c0_6, .slice A0_7 l0_7.length c0_7] 25 (0, 0)) (by (with_reducible repeat (first | refine blk_drewN ?_ _ | refine blk_drew ?_ | refine blk_alloc ?_ _)); exact BK710.out) hb); have n1_ := Aside0.mk (blk_below (g := gb711) (o := .cells #[.slice A1_0 l1_0.length c1_0] 30 (0, 0)) (by (with_reducible repeat (first | refine blk_drewN ?_ _ | refine blk_drew ?_ | refine blk_alloc ?_ _)); exact BK711.out) hb); have n2_ := Aside0.mk (below_step (by repeat (first | (with_reducible first | exact HB.out | apply below_alloc | apply pw_below_drewN | apply below_drew1 | refine below_set ?_ GE710.out | refine below_set ?_ GE711.out) | exact HB.out)) hb); clear BK710; clear BK711; clear HB; have BK710 := n0_; have BK711 := n1_; have HB := n2_; clear n0_ n1_ n2_; (try clear hb); (try clear hb2); (try clear hk); (try clear hi)))
    go_ret
    exact ⟨by first | rfl | (simp [errW_none, errW_some] <;> rfl) | (simp [*, errW_none, errW_some] <;> rfl), by repeat (first | (with_reducible first | exact HB.out | apply below_alloc | apply pw_below_drewN | apply below_drew1 | refine below_set ?_ GE710.out | refine below_set ?_ GE711.out) | exact HB.out)⟩
   ·replace c26 := Bool.eq_false_iff.mpr c26
    subst c26
    have H1 : ((some (([] : List (S32)) : List (S32))).bind fun y717 => (if y717.length + l0_6.length < 2513169434916 then (entrepotlaw11_FeasWider.l0 kj3 a2 0 a0_0 a0_1 a0_2 a0_3 a0_4 a0_5 l0_6 l0_7 l1_0 a0_0 a0_1 a0_2 a0_3 a0_4 a0_5 (y717 ++ l0_6) l0_7) else (none))) = some r := by rw [if_neg (show ¬ (false = true) by decide)] at H; exact H
    clear H
    have H := H1
    clear H1
    obtain ⟨y717, hy717⟩ : ∃ y_ : List (S32), y_ = (([] : List (S32))) := ⟨_, rfl⟩
    replace H : (if y717.length + l0_6.length < 2513169434916 then (entrepotlaw11_FeasWider.l0 kj3 a2 0 a0_0 a0_1 a0_2 a0_3 a0_4 a0_5 l0_6 l0_7 l1_0 a0_0 a0_1 a0_2 a0_3 a0_4 a0_5 (y717 ++ l0_6) l0_7) else (none)) = some r := by first | (rw [hy717]; with_reducible exact H) | (have H2_ := (Option.bind_some _ _).symm.trans H; rw [hy717]; with_reducible exact H2_) | (have H2_ := (Option.bind_some _ _).symm.trans H; with_reducible exact H2_) | with_reducible exact H | (rw [hy717]; exact H) | exact H
    have Ny717 := Aside0.mk hy717
    clear hy717
    by_cases c29 : y717.length + l0_6.length < 2513169434916
    ·rw [if_pos c29] at H
     have LMc29 := Aside0.mk c29
     clear c29
     obtain ⟨y720, hy720⟩ : ∃ y_ : List (S32), y_ = (y717 ++ l0_6) := ⟨_, rfl⟩
     replace H : (entrepotlaw11_FeasWider.l0 kj3 a2 0 a0_0 a0_1 a0_2 a0_3 a0_4 a0_5 l0_6 l0_7 l1_0 a0_0 a0_1 a0_2 a0_3 a0_4 a0_5 y720 l0_7) = some r := by first | (rw [hy720]; with_reducible exact H) | (have H2_ := (Option.bind_some _ _).symm.trans H; rw [hy720]; with_reducible exact H2_) | (have H2_ := (Option.bind_some _ _).symm.trans H; with_reducible exact H2_) | with_reducible exact H | (rw [hy720]; exact H) | exact H
     have Ny720 := Aside0.mk hy720
     clear hy720
     have H' := Aside0.mk H
     clear H
     have hnb30 := NB710_711.out
     have hnc30 := NB711_710.out
     obtain ⟨hcz31_0, hcz31_1, hcz31_2, hcz31_3, hcz31_4, hcz31_5, hcz31_6, hcz31_7, hfz31_0, hfz31_1, hfz31_2, hfz31_3, hfz31_4, hfz31_5, hfz31_6, hfz31_7⟩ := blk8_ BK710.out
     go_wp2_with (first | ((with_reducible refine gate_dst (N := 7) rfl ?_); refine box_event ?hg (N := 7) ?hd (cs := #[.string (⟨#[]⟩ : ByteArray), .int .i64 0, .int .i64 0, .int .i64 0, .int .i64 0, .int .i64 0, .slice none 0 0, .slice none 0 0]) (t := 25) ?hr ?_; (case hd => rfl); (case hg => rfl); (case hr => first | (go_simp; done) | (go_simp; rfl)); intro gb716 hg w32 hbox hb; have n0_ := Aside0.mk (blk_below (g := gb710) (o := .cells #[.string a0_0, .int .i64 a0_1, .int .i64 a0_2, .int .i64 a0_3, .int .i64 a0_4, .int .i64 a0_5, .slice A0_6 l0_6.length c0_6, .slice A0_7 l0_7.length c0_7] 25 (0, 0)) (by (with_reducible repeat (first | refine blk_drewN ?_ _ | refine blk_drew ?_ | refine blk_alloc ?_ _)); exact BK710.out) hb); have n1_ := Aside0.mk (blk_below (g := gb711) (o := .cells #[.slice A1_0 l1_0.length c1_0] 30 (0, 0)) (by (with_reducible repeat (first | refine blk_drewN ?_ _ | refine blk_drew ?_ | refine blk_alloc ?_ _)); exact BK711.out) hb); have n2_ := Aside0.mk (below_step (by repeat (first | (with_reducible first | exact HB.out | apply below_alloc | apply pw_below_drewN | apply below_drew1 | refine below_set ?_ GE710.out | refine below_set ?_ GE711.out) | exact HB.out)) hb); have n3_ := Aside0.mk (hbox); have n4_ := Aside0.mk ((by rw [hg]; exact (below_size (by repeat (first | (with_reducible first | exact HB.out | apply below_alloc | apply pw_below_drewN | apply below_drew1 | refine below_set ?_ GE710.out | refine below_set ?_ GE711.out) | exact HB.out))) : w.heap.size ≤ gb716)); have n5_ := Aside0.mk ((by rw [hg]; exact (below_size (by repeat (first | (with_reducible first | exact HB.out | apply below_alloc | apply pw_below_drewN | apply below_drew1 | refine below_set ?_ GE710.out | refine below_set ?_ GE711.out) | exact HB.out))) : w.heap.size ≤ gb716)); have n6_ := Aside0.mk ((by rw [hg]; exact Nat.ne_of_lt (blk_lt (g := gb710) (o := .cells #[.string a0_0, .int .i64 a0_1, .int .i64 a0_2, .int .i64 a0_3, .int .i64 a0_4, .int .i64 a0_5, .slice A0_6 l0_6.length c0_6, .slice A0_7 l0_7.length c0_7] 25 (0, 0)) (by (with_reducible repeat (first | refine blk_drewN ?_ _ | refine blk_drew ?_ | refine blk_alloc ?_ _)); exact BK710.out)) : gb710 ≠ gb716)); have n7_ := Aside0.mk ((by rw [hg]; exact Nat.ne_of_gt (blk_lt (g := gb710) (o := .cells #[.string a0_0, .int .i64 a0_1, .int .i64 a0_2, .int .i64 a0_3, .int .i64 a0_4, .int .i64 a0_5, .slice A0_6 l0_6.length c0_6, .slice A0_7 l0_7.length c0_7] 25 (0, 0)) (by (with_reducible repeat (first | refine blk_drewN ?_ _ | refine blk_drew ?_ | refine blk_alloc ?_ _)); exact BK710.out)) : gb716 ≠ gb710)); have n8_ := Aside0.mk ((by rw [hg]; exact Nat.ne_of_lt (blk_lt (g := gb711) (o := .cells #[.slice A1_0 l1_0.length c1_0] 30 (0, 0)) (by (with_reducible repeat (first | refine blk_drewN ?_ _ | refine blk_drew ?_ | refine blk_alloc ?_ _)); exact BK711.out)) : gb711 ≠ gb716)); have n9_ := Aside0.mk ((by rw [hg]; exact Nat.ne_of_gt (blk_lt (g := gb711) (o := .cells #[.slice A1_0 l1_0.length c1_0] 30 (0, 0)) (by (with_reducible repeat (first | refine blk_drewN ?_ _ | refine blk_drew ?_ | refine blk_alloc ?_ _)); exact BK711.out)) : gb716 ≠ gb711)); clear BK710; clear BK711; clear HB; have BK710 := n0_; have BK711 := n1_; have HB := n2_; have BK716 := n3_; have GW716 := n4_; have GE716 := n5_; have NB710_716 := n6_; have NB716_710 := n7_; have NB711_716 := n8_; have NB716_711 := n9_; clear n0_ n1_ n2_ n3_ n4_ n5_ n6_ n7_ n8_ n9_; clear hb hbox hg; have hnb33 := NB716_710.out; have hnc33 := NB710_716.out; have hnb34 := NB716_711.out; have hnc34 := NB711_716.out; obtain ⟨hcz35_0, hcz35_1, hcz35_2, hcz35_3, hcz35_4, hcz35_5, hcz35_6, hcz35_7, hfz35_0, hfz35_1, hfz35_2, hfz35_3, hfz35_4, hfz35_5, hfz35_6, hfz35_7⟩ := blk8_ BK716.out) | ((with_reducible refine gate_dst (N := 22) rfl ?_); refine Kd.R_lit k32 _ 32 ?hg (N := 22) ?hd (xs := ([] : List (S32))) (inner := []) (ok := fun _ => True) (okp := fun _ => True) ?hr ?hp (fun _ hk => hk) trivial (Below.refl _ _) (Nat.le_refl _) (by simp) ?_; (case hd => rfl); (case hg => rfl); (case hr => first | (go_simp; done) | (go_simp; rfl)); (case hp => exact (Reps.none _ _)); intro v718 w36 ho37 hb hg_ hnew_; clear hg_ hnew_; (first | rw [← Ny717.out] at ho37 | (simp only [Int.reduceToNat] at ho37; rw [← Ny717.out] at ho37)); have n0_ := Aside0.mk (Kd.R_lower ho37 (below_size (by repeat (first | (with_reducible first | exact HB.out | apply below_alloc | apply pw_below_drewN | apply below_drew1 | refine below_set ?_ GE710.out | refine below_set ?_ GE711.out | refine below_set ?_ GE716.out) | exact HB.out)))); have n1_ := Aside0.mk (blk_below (g := gb710) (o := .cells #[.string a0_0, .int .i64 a0_1, .int .i64 a0_2, .int .i64 a0_3, .int .i64 a0_4, .int .i64 a0_5, .slice A0_6 l0_6.length c0_6, .slice A0_7 l0_7.length c0_7] 25 (0, 0)) (by (with_reducible repeat (first | refine blk_drewN ?_ _ | refine blk_drew ?_ | refine blk_alloc ?_ _)); refine blk_far ?_ NB710_716.out _; (with_reducible repeat (first | refine blk_drewN ?_ _ | refine blk_drew ?_ | refine blk_alloc ?_ _)); refine blk_far ?_ NB710_716.out _; (with_reducible repeat (first | refine blk_drewN ?_ _ | refine blk_drew ?_ | refine blk_alloc ?_ _)); refine blk_far ?_ NB710_716.out _; (with_reducible repeat (first | refine blk_drewN ?_ _ | refine blk_drew ?_ | refine blk_alloc ?_ _)); refine blk_far ?_ NB710_716.out _; (with_reducible repeat (first | refine blk_drewN ?_ _ | refine blk_drew ?_ | refine blk_alloc ?_ _)); refine blk_far ?_ NB710_716.out _; (with_reducible repeat (first | refine blk_drewN ?_ _ | refine blk_drew ?_ | refine blk_alloc ?_ _)); refine blk_far ?_ NB710_716.out _; (with_reducible repeat (first | refine blk_drewN ?_ _ | refine blk_drew ?_ | refine blk_alloc ?_ _)); refine blk_far ?_ NB710_716.out _; (with_reducible repeat (first | refine blk_drewN ?_ _ | refine blk_drew ?_ | refine blk_alloc ?_ _)); refine blk_far ?_ NB710_716.out _; (with_reducible repeat (first | refine blk_drewN ?_ _ | refine blk_drew ?_ | refine blk_alloc ?_ _)); exact BK710.out) hb); have n2_ := Aside0.mk (blk_below (g := gb711) (o := .cells #[.slice A1_0 l1_0.length c1_0] 30 (0, 0)) (by (with_reducible repeat (first | refine blk_drewN ?_ _ | refine blk_drew ?_ | refine blk_alloc ?_ _)); refine blk_far ?_ NB711_716.out _; (with_reducible repeat (first | refine blk_drewN ?_ _ | refine blk_drew ?_ | refine blk_alloc ?_ _)); refine blk_far ?_ NB711_716.out _; (with_reducible repeat (first | refine blk_drewN ?_ _ | refine blk_drew ?_ | refine blk_alloc ?_ _)); refine blk_far ?_ NB711_716.out _; (with_reducible repeat (first | refine blk_drewN ?_ _ | refine blk_drew ?_ | refine blk_alloc ?_ _)); refine blk_far ?_ NB711_716.out _; (with_reducible repeat (first | refine blk_drewN ?_ _ | refine blk_drew ?_ | refine blk_alloc ?_ _)); refine blk_far ?_ NB711_716.out _; (with_reducible repeat (first | refine blk_drewN ?_ _ | refine blk_drew ?_ | refine blk_alloc ?_ _)); refine blk_far ?_ NB711_716.out _; (with_reducible repeat (first | refine blk_drewN ?_ _ | refine blk_drew ?_ | refine blk_alloc ?_ _)); refine blk_far ?_ NB711_716.out _; (with_reducible repeat (first | refine blk_drewN ?_ _ | refine blk_drew ?_ | refine blk_alloc ?_ _)); refine blk_far ?_ NB711_716.out _; (with_reducible repeat (first | refine blk_drewN ?_ _ | refine blk_drew ?_ | refine blk_alloc ?_ _)); exact BK711.out) hb); have n3_ := Aside0.mk (blk_below (g := gb716) (o := .cells #[.string a0_0, .int .i64 a0_1, .int .i64 a0_2, .int .i64 a0_3, .int .i64 a0_4, .int .i64 a0_5, .slice A0_6 l0_6.length c0_6, .slice A0_7 l0_7.length c0_7] 25 (0, 0)) (by (with_reducible repeat (first | refine blk_drewN ?_ _ | refine blk_drew ?_ | refine blk_alloc ?_ _)); refine blk_put (cs := #[.string a0_0, .int .i64 a0_1, .int .i64 a0_2, .int .i64 a0_3, .int .i64 a0_4, .int .i64 a0_5, .slice A0_6 l0_6.length c0_6, .slice none 0 0]) ?_ 7 _ rfl; (with_reducible repeat (first | refine blk_drewN ?_ _ | refine blk_drew ?_ | refine blk_alloc ?_ _)); refine blk_put (cs := #[.string a0_0, .int .i64 a0_1, .int .i64 a0_2, .int .i64 a0_3, .int .i64 a0_4, .int .i64 a0_5, .slice none 0 0, .slice none 0 0]) ?_ 6 _ rfl; (with_reducible repeat (first | refine blk_drewN ?_ _ | refine blk_drew ?_ | refine blk_alloc ?_ _)); refine blk_put (cs := #[.string a0_0, .int .i64 a0_1, .int .i64 a0_2, .int .i64 a0_3, .int .i64 a0_4, .int .i64 0, .slice none 0 0, .slice none 0 0]) ?_ 5 _ rfl; (with_reducible repeat (first | refine blk_drewN ?_ _ | refine blk_drew ?_ | refine blk_alloc ?_ _)); refine blk_put (cs := #[.string a0_0, .int .i64 a0_1, .int .i64 a0_2, .int .i64 a0_3, .int .i64 0, .int .i64 0, .slice none 0 0, .slice none 0 0]) ?_ 4 _ rfl; (with_reducible repeat (first | refine blk_drewN ?_ _ | refine blk_drew ?_ | refine blk_alloc ?_ _)); refine blk_put (cs := #[.string a0_0, .int .i64 a0_1, .int .i64 a0_2, .int .i64 0, .int .i64 0, .int .i64 0, .slice none 0 0, .slice none 0 0]) ?_ 3 _ rfl; (with_reducible repeat (first | refine blk_drewN ?_ _ | refine blk_drew ?_ | refine blk_alloc ?_ _)); refine blk_put (cs := #[.string a0_0, .int .i64 a0_1, .int .i64 0, .int .i64 0, .int .i64 0, .int .i64 0, .slice none 0 0, .slice none 0 0]) ?_ 2 _ rfl; (with_reducible repeat (first | refine blk_drewN ?_ _ | refine blk_drew ?_ | refine blk_alloc ?_ _)); refine blk_put (cs := #[.string a0_0, .int .i64 0, .int .i64 0, .int .i64 0, .int .i64 0, .int .i64 0, .slice none 0 0, .slice none 0 0]) ?_ 1 _ rfl; (with_reducible repeat (first | refine blk_drewN ?_ _ | refine blk_drew ?_ | refine blk_alloc ?_ _)); refine blk_put (cs := #[.string (⟨#[]⟩ : ByteArray), .int .i64 0, .int .i64 0, .int .i64 0, .int .i64 0, .int .i64 0, .slice none 0 0, .slice none 0 0]) ?_ 0 _ rfl; (with_reducible repeat (first | refine blk_drewN ?_ _ | refine blk_drew ?_ | refine blk_alloc ?_ _)); exact BK716.out) hb); have n4_ := Aside0.mk (below_step (by repeat (first | (with_reducible first | exact HB.out | apply below_alloc | apply pw_below_drewN | apply below_drew1 | refine below_set ?_ GE710.out | refine below_set ?_ GE711.out | refine below_set ?_ GE716.out) | exact HB.out)) hb); clear BK710; clear BK711; clear BK716; clear HB; have HO719 := n0_; have BK710 := n1_; have BK711 := n2_; have BK716 := n3_; have HB := n4_; clear n0_ n1_ n2_ n3_ n4_; clear hb ho37; obtain ⟨hcz38_0, hcz38_1, hcz38_2, hcz38_3, hcz38_4, hcz38_5, hcz38_6, hcz38_7, hfz38_0, hfz38_1, hfz38_2, hfz38_3, hfz38_4, hfz38_5, hfz38_6, hfz38_7⟩ := blk8_ BK710.out) | ((with_reducible refine gate_builtin (b := .append) (xs := #[.tmp 22, .tmp 24]) rfl ?_); at_builtin; refine Kd.R_append_rows k32 (w0 := w) w.heap.size rfl (.tmp 22) (.tmp 24) 22 32 (.agg #[(.int .i64 0), (.int .i64 0), (.int .i64 0), (.int .i64 0), (.int .i64 0), (.int .i64 0), (.int .i64 0)]) 56 rfl Try.underlying22 info32 rfl (by decide) (by omega) v718 y717 l0_6 _ _ _ (fun _ => True) (fun _ => False) rfl rfl ?aO ?aR (fun _ _ h => h) (fun _ h => h.elim) ?aF ?aB ?aS ?aL ?_; (case aR => repeat (first | exact (Kd.C_below HR0_6.out HB.out) | (with_reducible refine Kd.C_alloc ?_ _) | (with_reducible refine Kd.C_drewN ?_ _) | (with_reducible refine Kd.C_drew ?_))); (case aB => exact (by repeat (first | (with_reducible first | exact HB.out | apply below_alloc | apply pw_below_drewN | apply below_drew1 | refine below_set ?_ GE710.out | refine below_set ?_ GE711.out | refine below_set ?_ GE716.out) | exact HB.out))); (case aF => exact (fun _ _ => trivial)); (case aO => exact (by (with_reducible repeat (first | apply Kd.R_alloc | apply Kd.R_drewN | apply Kd.R_drew)); exact HO719.out)); (case aS => exact (below_size (by repeat (first | (with_reducible first | exact HB.out | apply below_alloc | apply pw_below_drewN | apply below_drew1 | refine below_set ?_ GE710.out | refine below_set ?_ GE711.out | refine below_set ?_ GE716.out) | exact HB.out)))); (case aL => have := LMc29.out; omega); intro v721 w39 ho hb hg hat; rw [← Ny720.out] at ho; have n0_ := Aside0.mk (blk_grown (g := gb710) (o := .cells #[.string a0_0, .int .i64 a0_1, .int .i64 a0_2, .int .i64 a0_3, .int .i64 a0_4, .int .i64 a0_5, .slice A0_6 l0_6.length c0_6, .slice A0_7 l0_7.length c0_7] 25 (0, 0)) (by (with_reducible repeat (first | refine blk_drewN ?_ _ | refine blk_drew ?_ | refine blk_alloc ?_ _)); exact BK710.out) hg (Kd.R_ne HO719.out BK710.out (by decide))); have n1_ := Aside0.mk (blk_grown (g := gb711) (o := .cells #[.slice A1_0 l1_0.length c1_0] 30 (0, 0)) (by (with_reducible repeat (first | refine blk_drewN ?_ _ | refine blk_drew ?_ | refine blk_alloc ?_ _)); exact BK711.out) hg (Kd.R_ne HO719.out BK711.out (by decide))); have n2_ := Aside0.mk (blk_grown (g := gb716) (o := .cells #[.string a0_0, .int .i64 a0_1, .int .i64 a0_2, .int .i64 a0_3, .int .i64 a0_4, .int .i64 a0_5, .slice A0_6 l0_6.length c0_6, .slice A0_7 l0_7.length c0_7] 25 (0, 0)) (by (with_reducible repeat (first | refine blk_drewN ?_ _ | refine blk_drew ?_ | refine blk_alloc ?_ _)); exact BK716.out) hg (Kd.R_ne HO719.out BK716.out (by decide))); have n3_ := Aside0.mk (hb); have n4_ := Aside0.mk (ho); clear BK710; clear BK711; clear BK716; clear HB; clear HO719; have BK710 := n0_; have BK711 := n1_; have BK716 := n2_; have HB := n3_; have HO722 := n4_; clear n0_ n1_ n2_ n3_ n4_; clear ho hb hg hat; obtain ⟨Ao40, co40, eo40⟩ := Kd.R_slice HO722.out; subst eo40; obtain ⟨hcz41_0, hcz41_1, hcz41_2, hcz41_3, hcz41_4, hcz41_5, hcz41_6, hcz41_7, hfz41_0, hfz41_1, hfz41_2, hfz41_3, hfz41_4, hfz41_5, hfz41_6, hfz41_7⟩ := blk8_ BK716.out))
     go_loopg [8] kj3 (fun kq v8 w' => ∃ (x8_2 : Int) (x717006_2 : List (S32)) (u717006 : Value), v8 = .int .i64 x8_2 ∧ Aside0 (entrepotlaw11_FeasWider.l0 kq a2 x8_2 a0_0 a0_1 a0_2 a0_3 a0_4 a0_5 l0_6 l0_7 l1_0 a0_0 a0_1 a0_2 a0_3 a0_4 a0_5 x717006_2 l0_7 = some r) ∧ Aside0 (kq ≤ kj3) ∧ Aside0 (Kd.R k32 32 w' w.heap.size (fun _ => True) u717006 x717006_2) ∧ Aside0 (w'.heap[gb710]? = some (.cells #[.string a0_0, .int .i64 a0_1, .int .i64 a0_2, .int .i64 a0_3, .int .i64 a0_4, .int .i64 a0_5, (.slice A0_6 l0_6.length c0_6), (.slice A0_7 l0_7.length c0_7)] 25 (0, 0))) ∧ Aside0 (w'.heap[gb711]? = some (.cells #[(.slice A1_0 l1_0.length c1_0)] 30 (0, 0))) ∧ Aside0 (w'.heap[gb716]? = some (.cells #[.string a0_0, .int .i64 a0_1, .int .i64 a0_2, .int .i64 a0_3, .int .i64 a0_4, .int .i64 a0_5, u717006, (.slice A0_7 l0_7.length c0_7)] 25 (0, 0))) ∧ Aside0 (Below w.heap.size w w'))
     case atStart => exact ⟨(0), (y720), (.slice Ao40 y720.length co40), (by first | rfl | (simp; done) | (simp [*]; done)), H', ⟨Nat.le_refl _⟩, ⟨by (with_reducible repeat (first | apply Kd.R_alloc | apply Kd.R_drewN | apply Kd.R_drew)); exact Kd.R_mono (Kd.R_far (p := ⟨gb716, 6, none⟩) (Kd.R_types HO722.out BK716.out (by decide)) (fun _ hk => hk.2) (.slice Ao40 y720.length co40)) (fun _ hk => trivial)⟩, ⟨by (with_reducible repeat (first | refine blk_drewN ?_ _ | refine blk_drew ?_ | refine blk_alloc ?_ _)); refine blk_far ?_ NB710_716.out _; (with_reducible repeat (first | refine blk_drewN ?_ _ | refine blk_drew ?_ | refine blk_alloc ?_ _)); exact BK710.out⟩, ⟨by (with_reducible repeat (first | refine blk_drewN ?_ _ | refine blk_drew ?_ | refine blk_alloc ?_ _)); refine blk_far ?_ NB711_716.out _; (with_reducible repeat (first | refine blk_drewN ?_ _ | refine blk_drew ?_ | refine blk_alloc ?_ _)); exact BK711.out⟩, ⟨by (with_reducible repeat (first | refine blk_drewN ?_ _ | refine blk_drew ?_ | refine blk_alloc ?_ _)); refine blk_put (cs := #[.string a0_0, .int .i64 a0_1, .int .i64 a0_2, .int .i64 a0_3, .int .i64 a0_4, .int .i64 a0_5, .slice A0_6 l0_6.length c0_6, .slice A0_7 l0_7.length c0_7]) ?_ 6 _ rfl; (with_reducible repeat (first | refine blk_drewN ?_ _ | refine blk_drew ?_ | refine blk_alloc ?_ _)); exact BK716.out⟩, ⟨by repeat (first | (with_reducible first | exact HB.out | apply below_alloc | apply pw_below_drewN | apply below_drew1 | refine below_set ?_ GE710.out | refine below_set ?_ GE711.out | refine below_set ?_ GE716.out) | exact HB.out)⟩⟩
     case round =>
      clear H'
      (try clear c26); (try clear c29); (try clear hcz31_0); (try clear hcz31_1); (try clear hcz31_2); (try clear hcz31_3); (try clear hcz31_4); (try clear hcz31_5); (try clear hcz31_6); (try clear hcz31_7); (try clear hcz35_0); (try clear hcz35_1); (try clear hcz35_2); (try clear hcz35_3); (try clear hcz35_4); (try clear hcz35_5); (try clear hcz35_6); (try clear hcz35_7); (try clear hcz38_0); (try clear hcz38_1); (try clear hcz38_2); (try clear hcz38_3); (try clear hcz38_4); (try clear hcz38_5); (try clear hcz38_6); (try clear hcz38_7); (try clear hcz41_0); (try clear hcz41_1); (try clear hcz41_2); (try clear hcz41_3); (try clear hcz41_4); (try clear hcz41_5); (try clear hcz41_6); (try clear hcz41_7); (try clear hfz31_0); (try clear hfz31_1); (try clear hfz31_2); (try clear hfz31_3); (try clear hfz31_4); (try clear hfz31_5); (try clear hfz31_6); (try clear hfz31_7); (try clear hfz35_0); (try clear hfz35_1); (try clear hfz35_2); (try clear hfz35_3); (try clear hfz35_4); (try clear hfz35_5); (try clear hfz35_6); (try clear hfz35_7); (try clear hfz38_0); (try clear hfz38_1); (try clear hfz38_2); (try clear hfz38_3); (try clear hfz38_4); (try clear hfz38_5); (try clear hfz38_6); (try clear hfz38_7); (try clear hfz41_0); (try clear hfz41_1); (try clear hfz41_2); (try clear hfz41_3); (try clear hfz41_4); (try clear hfz41_5); (try clear hfz41_6); (try clear hfz41_7)
      obtain ⟨x8_2, x717006_2, u717006, rfl, HA, HK2, HO_717006, BK710, BK711, BK716, HB⟩ := hrel
      cases gk with
      | zero => exact absurd HA.out (by simp [entrepotlaw11_FeasWider.l0])
      | succ k2 =>
       have H := HA.out
       clear HA
       simp only [entrepotlaw11_FeasWider.l0] at H
       by_cases c42 : x8_2 < (x717006_2.length : Int)
       ·rw [if_pos c42] at H
        have c42b0 : decide (x8_2 < (x717006_2.length : Int)) = true := decide_eq_true c42
        clear c42
        by_cases c43 : a0_1 = 3
        ·rw [if_pos c43] at H
         have c43b0 : (a0_1 == 3) = true := beq_iff_eq.mpr c43
         have c43b1 : (a0_1 != 3) = false := bne_eq_false_iff_eq.mpr c43
         clear c43
         by_cases c44 : 0 ≤ x8_2
         ·rw [if_pos c44] at H
          have c44b0 : decide (0 ≤ x8_2) = true := decide_eq_true c44
          clear c44
          obtain ⟨ji45, hji45⟩ : ∃ j_ : Int, (mn (wrap64 (((rd_T32 x717006_2 x8_2).f4) + (wrap64 (a2)))) 100000000) = j_ := ⟨_, rfl⟩
          replace H : (entrepotlaw11_FeasWider.l0 k2 a2 (wrap64 (x8_2 + 1)) a0_0 a0_1 a0_2 a0_3 a0_4 a0_5 l0_6 l0_7 l1_0 a0_0 a0_1 a0_2 a0_3 a0_4 a0_5 (x717006_2.set (x8_2 : Int).toNat (⟨(rd_T32 x717006_2 x8_2).f0, (rd_T32 x717006_2 x8_2).f1, (rd_T32 x717006_2 x8_2).f2, (rd_T32 x717006_2 x8_2).f3, ji45, (rd_T32 x717006_2 x8_2).f5, (rd_T32 x717006_2 x8_2).f6⟩ : S32)) l0_7) = some r := by first | (rw [hji45] at H; exact H) | (simp only [hji45] at H ⊢; exact H)
          have hji45_ : (if 100000000 < (wrap64 (((rd_T32 x717006_2 x8_2).f4) + (wrap64 (a2)))) then 100000000 else (wrap64 (((rd_T32 x717006_2 x8_2).f4) + (wrap64 (a2))))) = ji45 := hji45
          obtain ⟨y724, hy724⟩ : ∃ y_ : List (S32), y_ = (x717006_2.set (x8_2 : Int).toNat (⟨(rd_T32 x717006_2 x8_2).f0, (rd_T32 x717006_2 x8_2).f1, (rd_T32 x717006_2 x8_2).f2, (rd_T32 x717006_2 x8_2).f3, ji45, (rd_T32 x717006_2 x8_2).f5, (rd_T32 x717006_2 x8_2).f6⟩ : S32)) := ⟨_, rfl⟩
          replace H : (entrepotlaw11_FeasWider.l0 k2 a2 (wrap64 (x8_2 + 1)) a0_0 a0_1 a0_2 a0_3 a0_4 a0_5 l0_6 l0_7 l1_0 a0_0 a0_1 a0_2 a0_3 a0_4 a0_5 y724 l0_7) = some r := by first | (rw [hy724]; with_reducible exact H) | (have H2_ := (Option.bind_some _ _).symm.trans H; rw [hy724]; with_reducible exact H2_) | (have H2_ := (Option.bind_some _ _).symm.trans H; with_reducible exact H2_) | with_reducible exact H | (rw [hy724]; exact H) | exact H
          have Ny724 := Aside0.mk hy724
          clear hy724
          have H' := Aside0.mk H
          clear H
          have hnb47 := NB716_710.out
          have hnc47 := NB710_716.out
          have hnb48 := NB716_711.out
          have hnc48 := NB711_716.out
          obtain ⟨hcz49_0, hcz49_1, hcz49_2, hcz49_3, hcz49_4, hcz49_5, hcz49_6, hcz49_7, hfz49_0, hfz49_1, hfz49_2, hfz49_3, hfz49_4, hfz49_5, hfz49_6, hfz49_7⟩ := blk8_ BK716.out
          obtain ⟨Ao50, co50, eo50⟩ := Kd.R_slice HO_717006.out
          subst eo50
          have hnb51 := NB710_711.out
          have hnc51 := NB711_710.out
          obtain ⟨hcz52_0, hcz52_1, hcz52_2, hcz52_3, hcz52_4, hcz52_5, hcz52_6, hcz52_7, hfz52_0, hfz52_1, hfz52_2, hfz52_3, hfz52_4, hfz52_5, hfz52_6, hfz52_7⟩ := blk8_ BK710.out
          try go_wp2
          have n0_ := Aside0.mk (Kd.R_drew HO_717006.out)
          have n1_ := Aside0.mk (blk_drew BK710.out)
          have n2_ := Aside0.mk (blk_drew BK711.out)
          have n3_ := Aside0.mk (blk_drew BK716.out)
          have n4_ := Aside0.mk (below_drew1 HB.out)
          clear HO_717006
          clear BK710
          clear BK711
          clear BK716
          clear HB
          have HO_717006 := n0_
          have BK710 := n1_
          have BK711 := n2_
          have BK716 := n3_
          have HB := n4_
          clear n0_ n1_ n2_ n3_ n4_
          have p723 : 0 ≤ (x8_2 : Int) := of_decide_eq_true (by first | (with_reducible assumption) | assumption)
          have q723 : x8_2 < (x717006_2.length : Int) := of_decide_eq_true (by first | (with_reducible assumption) | assumption)
          obtain ⟨ad723, e723, hx723_0, hx723_1, hx723_2, hx723_3, hx723_4, hx723_5, hx723_6⟩ := at_T32 (Kd.R_reads' HO_717006.out).2.2 x8_2 p723 q723
          cases e723
          replace p723 := eq_true p723
          replace q723 := eq_true q723
          have p46 : 0 ≤ (x8_2 : Int) := of_decide_eq_true (by first | (with_reducible assumption) | assumption)
          have q46 : (x8_2 : Int) < ((x717006_2.length : Int) : Int) := of_decide_eq_true (by first | (with_reducible assumption) | assumption)
          obtain ⟨go46, co46, eo46, gb46, gl46, cl46, HG46⟩ := Kd.R_form HO_717006.out (by omega)
          (first | cases eo46 | (injection eo46 with ea_ en_ ec_; (first | subst ea_ | (injection ea_ with ea_; subst ea_)); subst ec_; clear en_))
          have GB46 := Aside0.mk gb46
          have GG46 := Aside0.mk HG46
          clear gb46 gl46 HG46
          (first | simp only [add_plain] at hx723_0 | skip)
          (first | simp only [add_plain] at hx723_1 | skip)
          (first | simp only [add_plain] at hx723_2 | skip)
          (first | simp only [add_plain] at hx723_3 | skip)
          (first | simp only [add_plain] at hx723_4 | skip)
          (first | simp only [add_plain] at hx723_5 | skip)
          (first | simp only [add_plain] at hx723_6 | skip)
          obtain ⟨ce46, hcl46, hM46, hcc46, hfr46⟩ := Kd.R_elem HO_717006.out z32 (x8_2 : Int) p46 q46
          obtain rfl := k32_openM hM46
          have hx46_0 : World.cell? _ ⟨go46, (x8_2 : Int).toNat * 7, none⟩ = some (.int .i64 ((rd_T32 x717006_2 x8_2).f0)) := hcc46 0 _ rfl
          have hx46_1 : World.cell? _ ⟨go46, (x8_2 : Int).toNat * 7 + 1, none⟩ = some (.int .i64 ((rd_T32 x717006_2 x8_2).f1)) := hcc46 1 _ rfl
          have hx46_2 : World.cell? _ ⟨go46, (x8_2 : Int).toNat * 7 + 2, none⟩ = some (.int .i64 ((rd_T32 x717006_2 x8_2).f2)) := hcc46 2 _ rfl
          have hx46_3 : World.cell? _ ⟨go46, (x8_2 : Int).toNat * 7 + 3, none⟩ = some (.int .i64 ((rd_T32 x717006_2 x8_2).f3)) := hcc46 3 _ rfl
          have hx46_4 : World.cell? _ ⟨go46, (x8_2 : Int).toNat * 7 + 4, none⟩ = some (.int .i64 ((rd_T32 x717006_2 x8_2).f4)) := hcc46 4 _ rfl
          have hx46_5 : World.cell? _ ⟨go46, (x8_2 : Int).toNat * 7 + 5, none⟩ = some (.int .i64 ((rd_T32 x717006_2 x8_2).f5)) := hcc46 5 _ rfl
          have hx46_6 : World.cell? _ ⟨go46, (x8_2 : Int).toNat * 7 + 6, none⟩ = some (.int .i64 ((rd_T32 x717006_2 x8_2).f6)) := hcc46 6 _ rfl
          have hf46_0 : World.frozen? _ ⟨go46, (x8_2 : Int).toNat * 7, none⟩ = false := hfr46 0
          have hf46_1 : World.frozen? _ ⟨go46, (x8_2 : Int).toNat * 7 + 1, none⟩ = false := hfr46 1
          have hf46_2 : World.frozen? _ ⟨go46, (x8_2 : Int).toNat * 7 + 2, none⟩ = false := hfr46 2
          have hf46_3 : World.frozen? _ ⟨go46, (x8_2 : Int).toNat * 7 + 3, none⟩ = false := hfr46 3
          have hf46_4 : World.frozen? _ ⟨go46, (x8_2 : Int).toNat * 7 + 4, none⟩ = false := hfr46 4
          have hf46_5 : World.frozen? _ ⟨go46, (x8_2 : Int).toNat * 7 + 5, none⟩ = false := hfr46 5
          have hf46_6 : World.frozen? _ ⟨go46, (x8_2 : Int).toNat * 7 + 6, none⟩ = false := hfr46 6
          clear hcl46 hcc46 hfr46 hM46
          replace p46 := eq_true p46
          replace q46 := eq_true q46
          obtain ⟨ce54, hcl54, hM54, hcc54, hfr54⟩ := Kd.R_elem HO_717006.out z32 (x8_2 : Int) (of_decide_eq_true (by first | (with_reducible assumption) | assumption)) (by have h_ : (x8_2 : Int) < ((x717006_2.length : Int) : Int) := of_decide_eq_true (by first | (with_reducible assumption) | assumption); first | exact h_ | (have e_ := (Kd.R_reads' HO_717006.out).1; omega) | simpa using h_)
          obtain rfl := k32_openM hM54
          have HP54 := (Kd.R_seg HO_717006.out (x8_2 : Int) (of_decide_eq_true (by first | (with_reducible assumption) | assumption)) (by have h_ : (x8_2 : Int) < ((x717006_2.length : Int) : Int) := of_decide_eq_true (by first | (with_reducible assumption) | assumption); first | exact h_ | (have e_ := (Kd.R_reads' HO_717006.out).1; omega) | simpa using h_) (seg := [.int .i64 ji45]) (j := 4) hcl54 hcc54 (show 5 ≤ 7 from by decide) (x' := (⟨(rd_T32 x717006_2 x8_2).f0, (rd_T32 x717006_2 x8_2).f1, (rd_T32 x717006_2 x8_2).f2, (rd_T32 x717006_2 x8_2).f3, ji45, (rd_T32 x717006_2 x8_2).f5, (rd_T32 x717006_2 x8_2).f6⟩ : S32)) (k32_mkM _ _ _ (⟨(rd_T32 x717006_2 x8_2).f0, (rd_T32 x717006_2 x8_2).f1, (rd_T32 x717006_2 x8_2).f2, (rd_T32 x717006_2 x8_2).f3, ji45, (rd_T32 x717006_2 x8_2).f5, (rd_T32 x717006_2 x8_2).f6⟩ : S32) ) (fun _ hk => hk)).1
          rw [← Ny724.out] at HP54
          have HQ54 := Aside0.mk HP54
          clear hcl54 hcc54 hfr54 hM54 HP54
          refine start_ (n := 16) (S := fun w' => w'.cell? ⟨gb716, 0, none⟩ = some (.string a0_0) ∧ w'.cell? ⟨gb716, 1, none⟩ = some (.int .i64 a0_1) ∧ w'.cell? ⟨gb716, 2, none⟩ = some (.int .i64 a0_2) ∧ w'.cell? ⟨gb716, 3, none⟩ = some (.int .i64 a0_3) ∧ w'.cell? ⟨gb716, 4, none⟩ = some (.int .i64 a0_4) ∧ w'.cell? ⟨gb716, 5, none⟩ = some (.int .i64 a0_5) ∧ w'.cell? ⟨gb716, 6, none⟩ = some (.slice (some ⟨go46, 0, none⟩) x717006_2.length co50) ∧ w'.cell? ⟨gb716, 7, none⟩ = some (.slice A0_7 l0_7.length c0_7) ∧ w'.cell? ⟨go46, ((x8_2).toNat * 7), none⟩ = some (.int .i64 ((rd_T32 x717006_2 x8_2).f0)) ∧ w'.cell? ⟨go46, ((x8_2).toNat * 7) + 1, none⟩ = some (.int .i64 ((rd_T32 x717006_2 x8_2).f1)) ∧ w'.cell? ⟨go46, ((x8_2).toNat * 7) + 2, none⟩ = some (.int .i64 ((rd_T32 x717006_2 x8_2).f2)) ∧ w'.cell? ⟨go46, ((x8_2).toNat * 7) + 3, none⟩ = some (.int .i64 ((rd_T32 x717006_2 x8_2).f3)) ∧ w'.cell? ⟨go46, ((x8_2).toNat * 7) + 4, none⟩ = some (.int .i64 ((rd_T32 x717006_2 x8_2).f4)) ∧ w'.cell? ⟨go46, ((x8_2).toNat * 7) + 5, none⟩ = some (.int .i64 ((rd_T32 x717006_2 x8_2).f5)) ∧ w'.cell? ⟨go46, ((x8_2).toNat * 7) + 6, none⟩ = some (.int .i64 ((rd_T32 x717006_2 x8_2).f6))) (ds := [15]) #[false, false, false, false, false, false, false, false, false, false, false, false, false, false, false, false] (by kernel_rfl) rfl rfl ⟨(blk_cell BK716.out 0).trans rfl, (blk_cell BK716.out 1).trans rfl, (blk_cell BK716.out 2).trans rfl, (blk_cell BK716.out 3).trans rfl, (blk_cell BK716.out 4).trans rfl, (blk_cell BK716.out 5).trans rfl, (blk_cell BK716.out 6).trans rfl, (blk_cell BK716.out 7).trans rfl, hx723_0, hx723_1, hx723_2, hx723_3, hx723_4, hx723_5, hx723_6⟩ (fun hHeld => ?_); refine with_tabW entrepotlaw11_FeasWider.tab9 entrepotlaw11_FeasWider.bits9 (fun HT_ HW_ => ?_)
          generalize wr.drew = w53 at HO_717006 BK710 BK711 BK716 HB GG46 HQ54 hf46_0 hf46_1 hf46_2 hf46_3 hf46_4 hf46_5 hf46_6 hx46_0 hx46_1 hx46_2 hx46_3 hx46_4 hx46_5 hx46_6 hx723_0 hx723_1 hx723_2 hx723_3 hx723_4 hx723_5 hx723_6 hHeld ⊢
          refine pure_ (i := 0) (N := some 42) (v := ?_) (a' := ?_) #[true, false, false, false, false, false, false, false, false, false, false, false, false, false, false, false] rfl rfl (any_of HT_.out (by kernel_rfl)) (fun _ _ _ h => h) (Or.inl ⟨by rfl, ?_⟩) ?_ ?_
          rotate_left
          ·intro w'
           go_simp
           with_reducible rfl
          rotate_left
          ·simp only [Act.put, List.setIfInBounds_toArray, List.set_cons_zero, List.set_cons_succ, i64_w, i32_w]
           rfl
          refine pure_ (i := 2) (N := some 44) (v := ?_) (a' := ?_) #[true, false, true, false, false, false, false, false, false, false, false, false, false, false, false, false] rfl rfl (any_of HT_.out (by kernel_rfl)) (fun _ _ _ h => h) (Or.inl ⟨by rfl, ?_⟩) ?_ ?_
          rotate_left
          ·intro w'
           go_simp
           with_reducible rfl
          rotate_left
          ·simp only [Act.put, List.setIfInBounds_toArray, List.set_cons_zero, List.set_cons_succ, i64_w, i32_w]
           rfl
          refine pure_ (i := 3) (N := some 45) (v := ?_) (a' := ?_) #[true, false, true, true, false, false, false, false, false, false, false, false, false, false, false, false] rfl rfl (any_of HT_.out (by kernel_rfl)) (fun _ _ _ h => h) (Or.inl ⟨by rfl, ?_⟩) ?_ ?_
          rotate_left
          ·intro w'
           go_simp
           with_reducible rfl
          rotate_left
          ·simp only [Act.put, List.setIfInBounds_toArray, List.set_cons_zero, List.set_cons_succ, i64_w, i32_w]
           rfl
          refine pure_ (i := 5) (N := some 47) (v := ?_) (a' := ?_) #[true, false, true, true, false, true, false, false, false, false, false, false, false, false, false, false] rfl rfl (any_of HT_.out (by kernel_rfl)) (fun _ _ _ h => h) (Or.inl ⟨by rfl, ?_⟩) ?_ ?_
          rotate_left
          ·intro w'
           go_simp
           with_reducible rfl
          rotate_left
          ·simp only [Act.put, List.setIfInBounds_toArray, List.set_cons_zero, List.set_cons_succ, i64_w, i32_w]
           rfl
          refine pure_ (i := 9) (N := some 51) (v := ?_) (a' := ?_) #[true, false, true, true, false, true, false, false, false, true, false, false, false, false, false, false] rfl rfl (any_of HT_.out (by kernel_rfl)) (fun _ _ _ h => h) (Or.inl ⟨by rfl, ?_⟩) ?_ ?_
          rotate_left
          ·intro w'
           go_simp
           with_reducible rfl
          rotate_left
          ·simp only [Act.put, List.setIfInBounds_toArray, List.set_cons_zero, List.set_cons_succ, i64_w, i32_w]
           rfl
          refine pure_ (i := 10) (N := some 52) (v := ?_) (a' := ?_) #[true, false, true, true, false, true, false, false, false, true, true, false, false, false, false, false] rfl rfl (any_of HT_.out (by kernel_rfl)) (fun _ _ _ h => h) (Or.inl ⟨by rfl, ?_⟩) ?_ ?_
          rotate_left
          ·intro w'
           go_simp
           with_reducible rfl
          rotate_left
          ·simp only [Act.put, List.setIfInBounds_toArray, List.set_cons_zero, List.set_cons_succ, i64_w, i32_w]
           rfl
          refine take_ (i := 1) (N := some 43) (v := ?_) (a' := ?_) #[true, true, true, true, false, true, false, false, false, true, true, false, false, false, false, false] rfl rfl (take_ofW HT_.out HW_.out (by kernel_rfl)) (fun _ _ _ h => h) (Or.inl ⟨by rfl, ?_⟩) hHeld ?_ ?_
          rotate_left
          ·rintro w' ⟨s0, s1, s2, s3, s4, s5, s6, s7, s8, s9, s10, s11, s12, s13, s14⟩
           go_simp
           with_reducible rfl
          rotate_left
          ·simp only [Act.put, List.setIfInBounds_toArray, List.set_cons_zero, List.set_cons_succ, i64_w, i32_w]
           rfl
          refine take_ (i := 4) (N := some 46) (v := ?_) (a' := ?_) #[true, true, true, true, true, true, false, false, false, true, true, false, false, false, false, false] rfl rfl (take_ofW HT_.out HW_.out (by kernel_rfl)) (fun _ _ _ h => h) (Or.inl ⟨by rfl, ?_⟩) hHeld ?_ ?_
          rotate_left
          ·rintro w' ⟨s0, s1, s2, s3, s4, s5, s6, s7, s8, s9, s10, s11, s12, s13, s14⟩
           go_simp
           with_reducible rfl
          rotate_left
          ·simp only [Act.put, List.setIfInBounds_toArray, List.set_cons_zero, List.set_cons_succ, i64_w, i32_w]
           rfl
          refine pure_ (i := 6) (N := some 48) (v := ?_) (a' := ?_) #[true, true, true, true, true, true, true, false, false, true, true, false, false, false, false, false] rfl rfl (any_of HT_.out (by kernel_rfl)) (fun _ _ _ h => h) (Or.inl ⟨by rfl, ?_⟩) ?_ ?_
          rotate_left
          ·intro w'
           go_simp
           with_reducible rfl
          rotate_left
          ·simp only [Act.put, List.setIfInBounds_toArray, List.set_cons_zero, List.set_cons_succ, i64_w, i32_w]
           rfl
          refine pure_ (i := 7) (N := some 49) (v := ?_) (a' := ?_) #[true, true, true, true, true, true, true, true, false, true, true, false, false, false, false, false] rfl rfl (any_of HT_.out (by kernel_rfl)) (fun _ _ _ h => h) (Or.inl ⟨by rfl, ?_⟩) ?_ ?_
          rotate_left
          ·intro w'
           go_simp
           with_reducible rfl
          rotate_left
          ·simp only [Act.put, List.setIfInBounds_toArray, List.set_cons_zero, List.set_cons_succ, i64_w, i32_w]
           rfl
          refine take_ (i := 8) (N := some 50) (v := ?_) (a' := ?_) #[true, true, true, true, true, true, true, true, true, true, true, false, false, false, false, false] rfl rfl (take_ofW HT_.out HW_.out (by kernel_rfl)) (fun _ _ _ h => h) (Or.inl ⟨by rfl, ?_⟩) hHeld ?_ ?_
          rotate_left
          ·rintro w' ⟨s0, s1, s2, s3, s4, s5, s6, s7, s8, s9, s10, s11, s12, s13, s14⟩
           go_simp
           with_reducible rfl
          rotate_left
          ·simp only [Act.put, List.setIfInBounds_toArray, List.set_cons_zero, List.set_cons_succ, i64_w, i32_w]
           rfl
          refine pure_ (i := 11) (N := some 53) (v := ?_) (a' := ?_) #[true, true, true, true, true, true, true, true, true, true, true, true, false, false, false, false] rfl rfl (any_of HT_.out (by kernel_rfl)) (fun _ _ _ h => h) (Or.inl ⟨by rfl, ?_⟩) ?_ ?_
          rotate_left
          ·intro w'
           go_simp
           with_reducible rfl
          rotate_left
          ·simp only [Act.put, List.setIfInBounds_toArray, List.set_cons_zero, List.set_cons_succ, i64_w, i32_w]
           rfl
          refine pure_ (i := 12) (N := some 54) (v := ?_) (a' := ?_) #[true, true, true, true, true, true, true, true, true, true, true, true, true, false, false, false] rfl rfl (any_of HT_.out (by kernel_rfl)) (fun _ _ _ h => h) (Or.inl ⟨by rfl, ?_⟩) ?_ ?_
          rotate_left
          ·intro w'
           go_simp
           with_reducible rfl
          rotate_left
          ·simp only [Act.put, List.setIfInBounds_toArray, List.set_cons_zero, List.set_cons_succ, i64_w, i32_w]
           rfl
          refine pure_ (i := 13) (N := some 55) (v := ?_) (a' := ?_) #[true, true, true, true, true, true, true, true, true, true, true, true, true, true, false, false] rfl rfl (any_of HT_.out (by kernel_rfl)) (fun _ _ _ h => h) (Or.inl ⟨by rfl, ?_⟩) ?_ ?_
          rotate_left
          ·intro w'
           go_simp
           with_reducible rfl
          rotate_left
          ·simp only [Act.put, List.setIfInBounds_toArray, List.set_cons_zero, List.set_cons_succ, i64_w, i32_w]
           rfl
          refine pure_ (i := 14) (N := some 56) (v := ?_) (a' := ?_) #[true, true, true, true, true, true, true, true, true, true, true, true, true, true, true, false] rfl rfl (any_of HT_.out (by kernel_rfl)) (fun _ _ _ h => h) (Or.inl ⟨by rfl, ?_⟩) ?_ ?_
          rotate_left
          ·intro w'
           go_simp
           with_reducible rfl
          rotate_left
          ·simp only [Act.put, List.setIfInBounds_toArray, List.set_cons_zero, List.set_cons_succ, i64_w, i32_w]
           rfl
          refine last_ (i := 15) (N := none) #[true, true, true, true, true, true, true, true, true, true, true, true, true, true, true, true] rfl rfl (one_of HT_.out (by kernel_rfl)) (by decide) (fun K hK => ?_)
          refine skip_ (w1 := ?_) (by rfl) rfl ?_ ?_
          rotate_left
          ·go_simp
           rfl
          refine hK.out _ _ ?_
          clear hK K
          refine done_ (done_of HT_.out (by kernel_rfl)) ?_
          try go_wp2
          go_roundg k2
          case measure => have := HJ3.out; have := HK2.out; omega
          case rel => exact ⟨(wrap64 (x8_2 + 1)), (y724), (.slice (some ⟨go46, 0, none⟩) x717006_2.length co50), (by first | rfl | (simp; done) | (simp [*]; done)), H', ⟨by have := HJ3.out; have := HK2.out; omega⟩, ⟨by (with_reducible repeat (first | apply Kd.R_alloc | apply Kd.R_drewN | apply Kd.R_drew)); exact HQ54.out⟩, ⟨by (with_reducible repeat (first | refine blk_drewN ?_ _ | refine blk_drew ?_ | refine blk_alloc ?_ _)); refine blk_far ?_ (by have h_ := Kd.R_ne HO_717006.out BK710.out (by decide); intro e_; exact h_ (by rw [e_]; rfl)) _; (with_reducible repeat (first | refine blk_drewN ?_ _ | refine blk_drew ?_ | refine blk_alloc ?_ _)); exact BK710.out⟩, ⟨by (with_reducible repeat (first | refine blk_drewN ?_ _ | refine blk_drew ?_ | refine blk_alloc ?_ _)); refine blk_far ?_ (by have h_ := Kd.R_ne HO_717006.out BK711.out (by decide); intro e_; exact h_ (by rw [e_]; rfl)) _; (with_reducible repeat (first | refine blk_drewN ?_ _ | refine blk_drew ?_ | refine blk_alloc ?_ _)); exact BK711.out⟩, ⟨by (with_reducible repeat (first | refine blk_drewN ?_ _ | refine blk_drew ?_ | refine blk_alloc ?_ _)); refine blk_far ?_ (by have h_ := Kd.R_ne HO_717006.out BK716.out (by decide); intro e_; exact h_ (by rw [e_]; rfl)) _; (with_reducible repeat (first | refine blk_drewN ?_ _ | refine blk_drew ?_ | refine blk_alloc ?_ _)); exact BK716.out⟩, ⟨by repeat (first | (with_reducible first | exact HB.out | apply below_alloc | apply pw_below_drewN | apply below_drew1 | refine below_set ?_ GB46.out | refine below_set ?_ GE710.out | refine below_set ?_ GE711.out | refine below_set ?_ GE716.out) | exact HB.out)⟩⟩
         ·rw [if_neg c44] at H
          exact absurd H (by simp)
        ·rw [if_neg c43] at H
         have c43b0 : (a0_1 == 3) = false := beq_eq_false_iff_ne.mpr c43
         have c43b1 : (a0_1 != 3) = true := bne_iff_ne.mpr c43
         by_cases c55 : a0_1 = 4
         ·rw [if_pos c55] at H
          have c55b0 : (a0_1 == 4) = true := beq_iff_eq.mpr c55
          have c55b1 : (a0_1 != 4) = false := bne_eq_false_iff_eq.mpr c55
          clear c55
          by_cases c56 : 0 ≤ x8_2
          ·rw [if_pos c56] at H
           have c56b0 : decide (0 ≤ x8_2) = true := decide_eq_true c56
           clear c56
           obtain ⟨ji57, hji57⟩ : ∃ j_ : Int, (mn (wrap64 (((rd_T32 x717006_2 x8_2).f4) + (wrap64 (a2)))) 100000000) = j_ := ⟨_, rfl⟩
           replace H : (entrepotlaw11_FeasWider.l0 k2 a2 (wrap64 (x8_2 + 1)) a0_0 a0_1 a0_2 a0_3 a0_4 a0_5 l0_6 l0_7 l1_0 a0_0 a0_1 a0_2 a0_3 a0_4 a0_5 (x717006_2.set (x8_2 : Int).toNat (⟨(rd_T32 x717006_2 x8_2).f0, (rd_T32 x717006_2 x8_2).f1, (rd_T32 x717006_2 x8_2).f2, (rd_T32 x717006_2 x8_2).f3, ji57, (rd_T32 x717006_2 x8_2).f5, (rd_T32 x717006_2 x8_2).f6⟩ : S32)) l0_7) = some r := by first | (rw [hji57] at H; exact H) | (simp only [hji57] at H ⊢; exact H)
           have hji57_ : (if 100000000 < (wrap64 (((rd_T32 x717006_2 x8_2).f4) + (wrap64 (a2)))) then 100000000 else (wrap64 (((rd_T32 x717006_2 x8_2).f4) + (wrap64 (a2))))) = ji57 := hji57
           obtain ⟨y726, hy726⟩ : ∃ y_ : List (S32), y_ = (x717006_2.set (x8_2 : Int).toNat (⟨(rd_T32 x717006_2 x8_2).f0, (rd_T32 x717006_2 x8_2).f1, (rd_T32 x717006_2 x8_2).f2, (rd_T32 x717006_2 x8_2).f3, ji57, (rd_T32 x717006_2 x8_2).f5, (rd_T32 x717006_2 x8_2).f6⟩ : S32)) := ⟨_, rfl⟩
           replace H : (entrepotlaw11_FeasWider.l0 k2 a2 (wrap64 (x8_2 + 1)) a0_0 a0_1 a0_2 a0_3 a0_4 a0_5 l0_6 l0_7 l1_0 a0_0 a0_1 a0_2 a0_3 a0_4 a0_5 y726 l0_7) = some r := by first | (rw [hy726]; with_reducible exact H) | (have H2_ := (Option.bind_some _ _).symm.trans H; rw [hy726]; with_reducible exact H2_) | (have H2_ := (Option.bind_some _ _).symm.trans H; with_reducible exact H2_) | with_reducible exact H | (rw [hy726]; exact H) | exact H
           have Ny726 := Aside0.mk hy726
           clear hy726
           have H' := Aside0.mk H
           clear H
           have hnb59 := NB716_710.out
           have hnc59 := NB710_716.out
           have hnb60 := NB716_711.out
           have hnc60 := NB711_716.out
           obtain ⟨hcz61_0, hcz61_1, hcz61_2, hcz61_3, hcz61_4, hcz61_5, hcz61_6, hcz61_7, hfz61_0, hfz61_1, hfz61_2, hfz61_3, hfz61_4, hfz61_5, hfz61_6, hfz61_7⟩ := blk8_ BK716.out
           obtain ⟨Ao62, co62, eo62⟩ := Kd.R_slice HO_717006.out
           subst eo62
           have hnb63 := NB710_711.out
           have hnc63 := NB711_710.out
           obtain ⟨hcz64_0, hcz64_1, hcz64_2, hcz64_3, hcz64_4, hcz64_5, hcz64_6, hcz64_7, hfz64_0, hfz64_1, hfz64_2, hfz64_3, hfz64_4, hfz64_5, hfz64_6, hfz64_7⟩ := blk8_ BK710.out
           try go_wp2
           have n0_ := Aside0.mk (Kd.R_drew HO_717006.out)
           have n1_ := Aside0.mk (blk_drew BK710.out)
           have n2_ := Aside0.mk (blk_drew BK711.out)
           have n3_ := Aside0.mk (blk_drew BK716.out)
           have n4_ := Aside0.mk (below_drew1 HB.out)
           clear HO_717006
           clear BK710
           clear BK711
           clear BK716
           clear HB
           have HO_717006 := n0_
           have BK710 := n1_
           have BK711 := n2_
           have BK716 := n3_
           have HB := n4_
           clear n0_ n1_ n2_ n3_ n4_
           have p725 : 0 ≤ (x8_2 : Int) := of_decide_eq_true (by first | (with_reducible assumption) | assumption)
           have q725 : x8_2 < (x717006_2.length : Int) := of_decide_eq_true (by first | (with_reducible assumption) | assumption)
           obtain ⟨ad725, e725, hx725_0, hx725_1, hx725_2, hx725_3, hx725_4, hx725_5, hx725_6⟩ := at_T32 (Kd.R_reads' HO_717006.out).2.2 x8_2 p725 q725
           cases e725
           replace p725 := eq_true p725
           replace q725 := eq_true q725
           have p58 : 0 ≤ (x8_2 : Int) := of_decide_eq_true (by first | (with_reducible assumption) | assumption)
           have q58 : (x8_2 : Int) < ((x717006_2.length : Int) : Int) := of_decide_eq_true (by first | (with_reducible assumption) | assumption)
           obtain ⟨go58, co58, eo58, gb58, gl58, cl58, HG58⟩ := Kd.R_form HO_717006.out (by omega)
           (first | cases eo58 | (injection eo58 with ea_ en_ ec_; (first | subst ea_ | (injection ea_ with ea_; subst ea_)); subst ec_; clear en_))
           have GB58 := Aside0.mk gb58
           have GG58 := Aside0.mk HG58
           clear gb58 gl58 HG58
           (first | simp only [add_plain] at hx725_0 | skip)
           (first | simp only [add_plain] at hx725_1 | skip)
           (first | simp only [add_plain] at hx725_2 | skip)
           (first | simp only [add_plain] at hx725_3 | skip)
           (first | simp only [add_plain] at hx725_4 | skip)
           (first | simp only [add_plain] at hx725_5 | skip)
           (first | simp only [add_plain] at hx725_6 | skip)
           obtain ⟨ce58, hcl58, hM58, hcc58, hfr58⟩ := Kd.R_elem HO_717006.out z32 (x8_2 : Int) p58 q58
           obtain rfl := k32_openM hM58
           have hx58_0 : World.cell? _ ⟨go58, (x8_2 : Int).toNat * 7, none⟩ = some (.int .i64 ((rd_T32 x717006_2 x8_2).f0)) := hcc58 0 _ rfl
           have hx58_1 : World.cell? _ ⟨go58, (x8_2 : Int).toNat * 7 + 1, none⟩ = some (.int .i64 ((rd_T32 x717006_2 x8_2).f1)) := hcc58 1 _ rfl
           have hx58_2 : World.cell? _ ⟨go58, (x8_2 : Int).toNat * 7 + 2, none⟩ = some (.int .i64 ((rd_T32 x717006_2 x8_2).f2)) := hcc58 2 _ rfl
           have hx58_3 : World.cell? _ ⟨go58, (x8_2 : Int).toNat * 7 + 3, none⟩ = some (.int .i64 ((rd_T32 x717006_2 x8_2).f3)) := hcc58 3 _ rfl
           have hx58_4 : World.cell? _ ⟨go58, (x8_2 : Int).toNat * 7 + 4, none⟩ = some (.int .i64 ((rd_T32 x717006_2 x8_2).f4)) := hcc58 4 _ rfl
           have hx58_5 : World.cell? _ ⟨go58, (x8_2 : Int).toNat * 7 + 5, none⟩ = some (.int .i64 ((rd_T32 x717006_2 x8_2).f5)) := hcc58 5 _ rfl
           have hx58_6 : World.cell? _ ⟨go58, (x8_2 : Int).toNat * 7 + 6, none⟩ = some (.int .i64 ((rd_T32 x717006_2 x8_2).f6)) := hcc58 6 _ rfl
           have hf58_0 : World.frozen? _ ⟨go58, (x8_2 : Int).toNat * 7, none⟩ = false := hfr58 0
           have hf58_1 : World.frozen? _ ⟨go58, (x8_2 : Int).toNat * 7 + 1, none⟩ = false := hfr58 1
           have hf58_2 : World.frozen? _ ⟨go58, (x8_2 : Int).toNat * 7 + 2, none⟩ = false := hfr58 2
           have hf58_3 : World.frozen? _ ⟨go58, (x8_2 : Int).toNat * 7 + 3, none⟩ = false := hfr58 3
           have hf58_4 : World.frozen? _ ⟨go58, (x8_2 : Int).toNat * 7 + 4, none⟩ = false := hfr58 4
           have hf58_5 : World.frozen? _ ⟨go58, (x8_2 : Int).toNat * 7 + 5, none⟩ = false := hfr58 5
           have hf58_6 : World.frozen? _ ⟨go58, (x8_2 : Int).toNat * 7 + 6, none⟩ = false := hfr58 6
           clear hcl58 hcc58 hfr58 hM58
           replace p58 := eq_true p58
           replace q58 := eq_true q58
           obtain ⟨ce66, hcl66, hM66, hcc66, hfr66⟩ := Kd.R_elem HO_717006.out z32 (x8_2 : Int) (of_decide_eq_true (by first | (with_reducible assumption) | assumption)) (by have h_ : (x8_2 : Int) < ((x717006_2.length : Int) : Int) := of_decide_eq_true (by first | (with_reducible assumption) | assumption); first | exact h_ | (have e_ := (Kd.R_reads' HO_717006.out).1; omega) | simpa using h_)
           obtain rfl := k32_openM hM66
           have HP66 := (Kd.R_seg HO_717006.out (x8_2 : Int) (of_decide_eq_true (by first | (with_reducible assumption) | assumption)) (by have h_ : (x8_2 : Int) < ((x717006_2.length : Int) : Int) := of_decide_eq_true (by first | (with_reducible assumption) | assumption); first | exact h_ | (have e_ := (Kd.R_reads' HO_717006.out).1; omega) | simpa using h_) (seg := [.int .i64 ji57]) (j := 4) hcl66 hcc66 (show 5 ≤ 7 from by decide) (x' := (⟨(rd_T32 x717006_2 x8_2).f0, (rd_T32 x717006_2 x8_2).f1, (rd_T32 x717006_2 x8_2).f2, (rd_T32 x717006_2 x8_2).f3, ji57, (rd_T32 x717006_2 x8_2).f5, (rd_T32 x717006_2 x8_2).f6⟩ : S32)) (k32_mkM _ _ _ (⟨(rd_T32 x717006_2 x8_2).f0, (rd_T32 x717006_2 x8_2).f1, (rd_T32 x717006_2 x8_2).f2, (rd_T32 x717006_2 x8_2).f3, ji57, (rd_T32 x717006_2 x8_2).f5, (rd_T32 x717006_2 x8_2).f6⟩ : S32) ) (fun _ hk => hk)).1
           rw [← Ny726.out] at HP66
           have HQ66 := Aside0.mk HP66
           clear hcl66 hcc66 hfr66 hM66 HP66
           refine start_ (n := 16) (S := fun w' => w'.cell? ⟨gb716, 0, none⟩ = some (.string a0_0) ∧ w'.cell? ⟨gb716, 1, none⟩ = some (.int .i64 a0_1) ∧ w'.cell? ⟨gb716, 2, none⟩ = some (.int .i64 a0_2) ∧ w'.cell? ⟨gb716, 3, none⟩ = some (.int .i64 a0_3) ∧ w'.cell? ⟨gb716, 4, none⟩ = some (.int .i64 a0_4) ∧ w'.cell? ⟨gb716, 5, none⟩ = some (.int .i64 a0_5) ∧ w'.cell? ⟨gb716, 6, none⟩ = some (.slice (some ⟨go58, 0, none⟩) x717006_2.length co62) ∧ w'.cell? ⟨gb716, 7, none⟩ = some (.slice A0_7 l0_7.length c0_7) ∧ w'.cell? ⟨go58, ((x8_2).toNat * 7), none⟩ = some (.int .i64 ((rd_T32 x717006_2 x8_2).f0)) ∧ w'.cell? ⟨go58, ((x8_2).toNat * 7) + 1, none⟩ = some (.int .i64 ((rd_T32 x717006_2 x8_2).f1)) ∧ w'.cell? ⟨go58, ((x8_2).toNat * 7) + 2, none⟩ = some (.int .i64 ((rd_T32 x717006_2 x8_2).f2)) ∧ w'.cell? ⟨go58, ((x8_2).toNat * 7) + 3, none⟩ = some (.int .i64 ((rd_T32 x717006_2 x8_2).f3)) ∧ w'.cell? ⟨go58, ((x8_2).toNat * 7) + 4, none⟩ = some (.int .i64 ((rd_T32 x717006_2 x8_2).f4)) ∧ w'.cell? ⟨go58, ((x8_2).toNat * 7) + 5, none⟩ = some (.int .i64 ((rd_T32 x717006_2 x8_2).f5)) ∧ w'.cell? ⟨go58, ((x8_2).toNat * 7) + 6, none⟩ = some (.int .i64 ((rd_T32 x717006_2 x8_2).f6))) (ds := [15]) #[false, false, false, false, false, false, false, false, false, false, false, false, false, false, false, false] (by kernel_rfl) rfl rfl ⟨(blk_cell BK716.out 0).trans rfl, (blk_cell BK716.out 1).trans rfl, (blk_cell BK716.out 2).trans rfl, (blk_cell BK716.out 3).trans rfl, (blk_cell BK716.out 4).trans rfl, (blk_cell BK716.out 5).trans rfl, (blk_cell BK716.out 6).trans rfl, (blk_cell BK716.out 7).trans rfl, hx725_0, hx725_1, hx725_2, hx725_3, hx725_4, hx725_5, hx725_6⟩ (fun hHeld => ?_); refine with_tabW entrepotlaw11_FeasWider.tab9 entrepotlaw11_FeasWider.bits9 (fun HT_ HW_ => ?_)
           generalize wr.drew = w65 at HO_717006 BK710 BK711 BK716 HB GG58 HQ66 hf58_0 hf58_1 hf58_2 hf58_3 hf58_4 hf58_5 hf58_6 hx58_0 hx58_1 hx58_2 hx58_3 hx58_4 hx58_5 hx58_6 hx725_0 hx725_1 hx725_2 hx725_3 hx725_4 hx725_5 hx725_6 hHeld ⊢
           refine pure_ (i := 0) (N := some 42) (v := ?_) (a' := ?_) #[true, false, false, false, false, false, false, false, false, false, false, false, false, false, false, false] rfl rfl (any_of HT_.out (by kernel_rfl)) (fun _ _ _ h => h) (Or.inl ⟨by rfl, ?_⟩) ?_ ?_
           rotate_left
           ·intro w'
            go_simp
            with_reducible rfl
           rotate_left
           ·simp only [Act.put, List.setIfInBounds_toArray, List.set_cons_zero, List.set_cons_succ, i64_w, i32_w]
            rfl
           refine pure_ (i := 2) (N := some 44) (v := ?_) (a' := ?_) #[true, false, true, false, false, false, false, false, false, false, false, false, false, false, false, false] rfl rfl (any_of HT_.out (by kernel_rfl)) (fun _ _ _ h => h) (Or.inl ⟨by rfl, ?_⟩) ?_ ?_
           rotate_left
           ·intro w'
            go_simp
            with_reducible rfl
           rotate_left
           ·simp only [Act.put, List.setIfInBounds_toArray, List.set_cons_zero, List.set_cons_succ, i64_w, i32_w]
            rfl
           refine pure_ (i := 3) (N := some 45) (v := ?_) (a' := ?_) #[true, false, true, true, false, false, false, false, false, false, false, false, false, false, false, false] rfl rfl (any_of HT_.out (by kernel_rfl)) (fun _ _ _ h => h) (Or.inl ⟨by rfl, ?_⟩) ?_ ?_
           rotate_left
           ·intro w'
            go_simp
            with_reducible rfl
           rotate_left
           ·simp only [Act.put, List.setIfInBounds_toArray, List.set_cons_zero, List.set_cons_succ, i64_w, i32_w]
            rfl
           refine pure_ (i := 5) (N := some 47) (v := ?_) (a' := ?_) #[true, false, true, true, false, true, false, false, false, false, false, false, false, false, false, false] rfl rfl (any_of HT_.out (by kernel_rfl)) (fun _ _ _ h => h) (Or.inl ⟨by rfl, ?_⟩) ?_ ?_
           rotate_left
           ·intro w'
            go_simp
            with_reducible rfl
           rotate_left
           ·simp only [Act.put, List.setIfInBounds_toArray, List.set_cons_zero, List.set_cons_succ, i64_w, i32_w]
            rfl
           refine pure_ (i := 9) (N := some 51) (v := ?_) (a' := ?_) #[true, false, true, true, false, true, false, false, false, true, false, false, false, false, false, false] rfl rfl (any_of HT_.out (by kernel_rfl)) (fun _ _ _ h => h) (Or.inl ⟨by rfl, ?_⟩) ?_ ?_
           rotate_left
           ·intro w'
            go_simp
            with_reducible rfl
           rotate_left
           ·simp only [Act.put, List.setIfInBounds_toArray, List.set_cons_zero, List.set_cons_succ, i64_w, i32_w]
            rfl
           refine pure_ (i := 10) (N := some 52) (v := ?_) (a' := ?_) #[true, false, true, true, false, true, false, false, false, true, true, false, false, false, false, false] rfl rfl (any_of HT_.out (by kernel_rfl)) (fun _ _ _ h => h) (Or.inl ⟨by rfl, ?_⟩) ?_ ?_
           rotate_left
           ·intro w'
            go_simp
            with_reducible rfl
           rotate_left
           ·simp only [Act.put, List.setIfInBounds_toArray, List.set_cons_zero, List.set_cons_succ, i64_w, i32_w]
            rfl
           refine take_ (i := 1) (N := some 43) (v := ?_) (a' := ?_) #[true, true, true, true, false, true, false, false, false, true, true, false, false, false, false, false] rfl rfl (take_ofW HT_.out HW_.out (by kernel_rfl)) (fun _ _ _ h => h) (Or.inl ⟨by rfl, ?_⟩) hHeld ?_ ?_
           rotate_left
           ·rintro w' ⟨s0, s1, s2, s3, s4, s5, s6, s7, s8, s9, s10, s11, s12, s13, s14⟩
            go_simp
            with_reducible rfl
           rotate_left
           ·simp only [Act.put, List.setIfInBounds_toArray, List.set_cons_zero, List.set_cons_succ, i64_w, i32_w]
            rfl
           refine take_ (i := 4) (N := some 46) (v := ?_) (a' := ?_) #[true, true, true, true, true, true, false, false, false, true, true, false, false, false, false, false] rfl rfl (take_ofW HT_.out HW_.out (by kernel_rfl)) (fun _ _ _ h => h) (Or.inl ⟨by rfl, ?_⟩) hHeld ?_ ?_
           rotate_left
           ·rintro w' ⟨s0, s1, s2, s3, s4, s5, s6, s7, s8, s9, s10, s11, s12, s13, s14⟩
            go_simp
            with_reducible rfl
           rotate_left
           ·simp only [Act.put, List.setIfInBounds_toArray, List.set_cons_zero, List.set_cons_succ, i64_w, i32_w]
            rfl
           refine pure_ (i := 6) (N := some 48) (v := ?_) (a' := ?_) #[true, true, true, true, true, true, true, false, false, true, true, false, false, false, false, false] rfl rfl (any_of HT_.out (by kernel_rfl)) (fun _ _ _ h => h) (Or.inl ⟨by rfl, ?_⟩) ?_ ?_
           rotate_left
           ·intro w'
            go_simp
            with_reducible rfl
           rotate_left
           ·simp only [Act.put, List.setIfInBounds_toArray, List.set_cons_zero, List.set_cons_succ, i64_w, i32_w]
            rfl
           refine pure_ (i := 7) (N := some 49) (v := ?_) (a' := ?_) #[true, true, true, true, true, true, true, true, false, true, true, false, false, false, false, false] rfl rfl (any_of HT_.out (by kernel_rfl)) (fun _ _ _ h => h) (Or.inl ⟨by rfl, ?_⟩) ?_ ?_
           rotate_left
           ·intro w'
            go_simp
            with_reducible rfl
           rotate_left
           ·simp only [Act.put, List.setIfInBounds_toArray, List.set_cons_zero, List.set_cons_succ, i64_w, i32_w]
            rfl
           refine take_ (i := 8) (N := some 50) (v := ?_) (a' := ?_) #[true, true, true, true, true, true, true, true, true, true, true, false, false, false, false, false] rfl rfl (take_ofW HT_.out HW_.out (by kernel_rfl)) (fun _ _ _ h => h) (Or.inl ⟨by rfl, ?_⟩) hHeld ?_ ?_
           rotate_left
           ·rintro w' ⟨s0, s1, s2, s3, s4, s5, s6, s7, s8, s9, s10, s11, s12, s13, s14⟩
            go_simp
            with_reducible rfl
           rotate_left
           ·simp only [Act.put, List.setIfInBounds_toArray, List.set_cons_zero, List.set_cons_succ, i64_w, i32_w]
            rfl
           refine pure_ (i := 11) (N := some 53) (v := ?_) (a' := ?_) #[true, true, true, true, true, true, true, true, true, true, true, true, false, false, false, false] rfl rfl (any_of HT_.out (by kernel_rfl)) (fun _ _ _ h => h) (Or.inl ⟨by rfl, ?_⟩) ?_ ?_
           rotate_left
           ·intro w'
            go_simp
            with_reducible rfl
           rotate_left
           ·simp only [Act.put, List.setIfInBounds_toArray, List.set_cons_zero, List.set_cons_succ, i64_w, i32_w]
            rfl
           refine pure_ (i := 12) (N := some 54) (v := ?_) (a' := ?_) #[true, true, true, true, true, true, true, true, true, true, true, true, true, false, false, false] rfl rfl (any_of HT_.out (by kernel_rfl)) (fun _ _ _ h => h) (Or.inl ⟨by rfl, ?_⟩) ?_ ?_
           rotate_left
           ·intro w'
            go_simp
            with_reducible rfl
           rotate_left
           ·simp only [Act.put, List.setIfInBounds_toArray, List.set_cons_zero, List.set_cons_succ, i64_w, i32_w]
            rfl
           refine pure_ (i := 13) (N := some 55) (v := ?_) (a' := ?_) #[true, true, true, true, true, true, true, true, true, true, true, true, true, true, false, false] rfl rfl (any_of HT_.out (by kernel_rfl)) (fun _ _ _ h => h) (Or.inl ⟨by rfl, ?_⟩) ?_ ?_
           rotate_left
           ·intro w'
            go_simp
            with_reducible rfl
           rotate_left
           ·simp only [Act.put, List.setIfInBounds_toArray, List.set_cons_zero, List.set_cons_succ, i64_w, i32_w]
            rfl
           refine pure_ (i := 14) (N := some 56) (v := ?_) (a' := ?_) #[true, true, true, true, true, true, true, true, true, true, true, true, true, true, true, false] rfl rfl (any_of HT_.out (by kernel_rfl)) (fun _ _ _ h => h) (Or.inl ⟨by rfl, ?_⟩) ?_ ?_
           rotate_left
           ·intro w'
            go_simp
            with_reducible rfl
           rotate_left
           ·simp only [Act.put, List.setIfInBounds_toArray, List.set_cons_zero, List.set_cons_succ, i64_w, i32_w]
            rfl
           refine last_ (i := 15) (N := none) #[true, true, true, true, true, true, true, true, true, true, true, true, true, true, true, true] rfl rfl (one_of HT_.out (by kernel_rfl)) (by decide) (fun K hK => ?_)
           refine skip_ (w1 := ?_) (by rfl) rfl ?_ ?_
           rotate_left
           ·go_simp
            rfl
           refine hK.out _ _ ?_
           clear hK K
           refine done_ (done_of HT_.out (by kernel_rfl)) ?_
           try go_wp2
           go_roundg k2
           case measure => have := HJ3.out; have := HK2.out; omega
           case rel => exact ⟨(wrap64 (x8_2 + 1)), (y726), (.slice (some ⟨go58, 0, none⟩) x717006_2.length co62), (by first | rfl | (simp; done) | (simp [*]; done)), H', ⟨by have := HJ3.out; have := HK2.out; omega⟩, ⟨by (with_reducible repeat (first | apply Kd.R_alloc | apply Kd.R_drewN | apply Kd.R_drew)); exact HQ66.out⟩, ⟨by (with_reducible repeat (first | refine blk_drewN ?_ _ | refine blk_drew ?_ | refine blk_alloc ?_ _)); refine blk_far ?_ (by have h_ := Kd.R_ne HO_717006.out BK710.out (by decide); intro e_; exact h_ (by rw [e_]; rfl)) _; (with_reducible repeat (first | refine blk_drewN ?_ _ | refine blk_drew ?_ | refine blk_alloc ?_ _)); exact BK710.out⟩, ⟨by (with_reducible repeat (first | refine blk_drewN ?_ _ | refine blk_drew ?_ | refine blk_alloc ?_ _)); refine blk_far ?_ (by have h_ := Kd.R_ne HO_717006.out BK711.out (by decide); intro e_; exact h_ (by rw [e_]; rfl)) _; (with_reducible repeat (first | refine blk_drewN ?_ _ | refine blk_drew ?_ | refine blk_alloc ?_ _)); exact BK711.out⟩, ⟨by (with_reducible repeat (first | refine blk_drewN ?_ _ | refine blk_drew ?_ | refine blk_alloc ?_ _)); refine blk_far ?_ (by have h_ := Kd.R_ne HO_717006.out BK716.out (by decide); intro e_; exact h_ (by rw [e_]; rfl)) _; (with_reducible repeat (first | refine blk_drewN ?_ _ | refine blk_drew ?_ | refine blk_alloc ?_ _)); exact BK716.out⟩, ⟨by repeat (first | (with_reducible first | exact HB.out | apply below_alloc | apply pw_below_drewN | apply below_drew1 | refine below_set ?_ GB58.out | refine below_set ?_ GE710.out | refine below_set ?_ GE711.out | refine below_set ?_ GE716.out) | exact HB.out)⟩⟩
          ·rw [if_neg c56] at H
           exact absurd H (by simp)
         ·rw [if_neg c55] at H
          have c55b0 : (a0_1 == 4) = false := beq_eq_false_iff_ne.mpr c55
          have c55b1 : (a0_1 != 4) = true := bne_iff_ne.mpr c55
          have H' := Aside0.mk H
          clear H
          have hnb67 := NB716_710.out
          have hnc67 := NB710_716.out
          have hnb68 := NB716_711.out
          have hnc68 := NB711_716.out
          obtain ⟨hcz69_0, hcz69_1, hcz69_2, hcz69_3, hcz69_4, hcz69_5, hcz69_6, hcz69_7, hfz69_0, hfz69_1, hfz69_2, hfz69_3, hfz69_4, hfz69_5, hfz69_6, hfz69_7⟩ := blk8_ BK716.out
          obtain ⟨Ao70, co70, eo70⟩ := Kd.R_slice HO_717006.out
          subst eo70
          have hnb71 := NB710_711.out
          have hnc71 := NB711_710.out
          obtain ⟨hcz72_0, hcz72_1, hcz72_2, hcz72_3, hcz72_4, hcz72_5, hcz72_6, hcz72_7, hfz72_0, hfz72_1, hfz72_2, hfz72_3, hfz72_4, hfz72_5, hfz72_6, hfz72_7⟩ := blk8_ BK710.out
          go_wp2
          go_roundg k2
          case measure => have := HJ3.out; have := HK2.out; omega
          case rel => exact ⟨(wrap64 (x8_2 + 1)), (x717006_2), (.slice Ao70 x717006_2.length co70), (by first | rfl | (simp; done) | (simp [*]; done)), H', ⟨by have := HJ3.out; have := HK2.out; omega⟩, ⟨by (with_reducible repeat (first | apply Kd.R_alloc | apply Kd.R_drewN | apply Kd.R_drew)); exact HO_717006.out⟩, ⟨by (with_reducible repeat (first | refine blk_drewN ?_ _ | refine blk_drew ?_ | refine blk_alloc ?_ _)); exact BK710.out⟩, ⟨by (with_reducible repeat (first | refine blk_drewN ?_ _ | refine blk_drew ?_ | refine blk_alloc ?_ _)); exact BK711.out⟩, ⟨by (with_reducible repeat (first | refine blk_drewN ?_ _ | refine blk_drew ?_ | refine blk_alloc ?_ _)); exact BK716.out⟩, ⟨by repeat (first | (with_reducible first | exact HB.out | apply below_alloc | apply pw_below_drewN | apply below_drew1 | refine below_set ?_ GE710.out | refine below_set ?_ GE711.out | refine below_set ?_ GE716.out) | exact HB.out)⟩⟩
       ·rw [if_neg c42] at H
        have c42b0 : decide (x8_2 < (x717006_2.length : Int)) = false := decide_eq_false c42
        clear c42
        by_cases c73 : a0_1 = 1
        ·rw [if_pos c73] at H
         have c73b0 : (a0_1 == 1) = true := beq_iff_eq.mpr c73
         have c73b1 : (a0_1 != 1) = false := bne_eq_false_iff_eq.mpr c73
         clear c73
         replace H := Option.bind_eq_some_iff.mp H
         obtain ⟨t727, A740, H⟩ := H
         replace H : (if t727 = true then ((feas_Feasible.f a0_0 a0_1 a0_2 a0_3 a0_4 a0_5 x717006_2 l0_7 l1_0).bind fun t728 => (some t728)) else (some true)) = some r := H
         have A74 := Aside0.mk A740
         clear A740
         by_cases c75 : t727 = true
         ·subst c75
          have H1 : ((feas_Feasible.f a0_0 a0_1 a0_2 a0_3 a0_4 a0_5 x717006_2 l0_7 l1_0).bind fun t728 => (some t728)) = some r := by rw [if_pos rfl] at H; exact H
          clear H
          have H := H1
          clear H1
          replace H := Option.bind_eq_some_iff.mp H
          obtain ⟨t728, A760, H⟩ := H
          replace H : (some t728) = some r := H
          have A76 := Aside0.mk A760
          clear A760
          obtain rfl := Option.some.inj H
          have hnb77 := NB716_710.out
          have hnc77 := NB710_716.out
          have hnb78 := NB716_711.out
          have hnc78 := NB711_716.out
          obtain ⟨hcz79_0, hcz79_1, hcz79_2, hcz79_3, hcz79_4, hcz79_5, hcz79_6, hcz79_7, hfz79_0, hfz79_1, hfz79_2, hfz79_3, hfz79_4, hfz79_5, hfz79_6, hfz79_7⟩ := blk8_ BK716.out
          obtain ⟨Ao80, co80, eo80⟩ := Kd.R_slice HO_717006.out
          subst eo80
          have hnb81 := NB710_711.out
          have hnc81 := NB711_710.out
          obtain ⟨hcz82_0, hcz82_1, hcz82_2, hcz82_3, hcz82_4, hcz82_5, hcz82_6, hcz82_7, hfz82_0, hfz82_1, hfz82_2, hfz82_3, hfz82_4, hfz82_5, hfz82_6, hfz82_7⟩ := blk8_ BK710.out
          obtain ⟨hcz83_0, hfz83_0⟩ := blk1_ BK711.out
          go_wp2_with (first | ((with_reducible refine gate_callee (f := 13) rfl ?_); refine goesL_ (some 79) rfl rfl Try.func13 (by kernel_rfl) rfl #[.agg #[.string a0_0, .int .i64 a0_1, .int .i64 a0_2, .int .i64 a0_3, .int .i64 a0_4, .int .i64 a0_5, .slice A0_6 l0_6.length c0_6, .slice A0_7 l0_7.length c0_7], .agg #[.slice A1_0 l1_0.length c1_0]] rfl (by (try simp only [List.map_toArray, List.map_cons, List.map_nil]); first | done | rfl | (simp only [List.length_drop, List.length_take]; rfl)) ?_; (with_reducible refine (feas_Feasible.calls a0_0 a0_1 a0_2 a0_3 a0_4 a0_5 _ _ l0_6 _ _ l0_7 _ _ l1_0 true _ ?side1 ?side2 ?side3 ?side4 ?side5 ?side6 A74.out).mono ?_); (case side1 => repeat (first | exact (Kd.C_below HR0_6.out HB.out) | (with_reducible refine Kd.C_alloc ?_ _) | (with_reducible refine Kd.C_drewN ?_ _) | (with_reducible refine Kd.C_drew ?_))); (case side2 => exact HC0_6.out); (case side3 => repeat (first | exact (Kd.C_below HR0_7.out HB.out) | (with_reducible refine Kd.C_alloc ?_ _) | (with_reducible refine Kd.C_drewN ?_ _) | (with_reducible refine Kd.C_drew ?_))); (case side4 => exact HC0_7.out); (case side5 => repeat (first | exact (Kd.C_below HR1_0.out HB.out) | (with_reducible refine Kd.C_alloc ?_ _) | (with_reducible refine Kd.C_drewN ?_ _) | (with_reducible refine Kd.C_drew ?_))); (case side6 => exact HC1_0.out); rintro e w84 ⟨rfl, hb⟩; refine ⟨_, rfl, ?_⟩; have n0_ := Aside0.mk (Kd.R_below (by (with_reducible repeat (first | apply Kd.R_alloc | apply Kd.R_drewN | apply Kd.R_drew)); exact HO_717006.out) hb); have n1_ := Aside0.mk (blk_below (g := gb710) (o := .cells #[.string a0_0, .int .i64 a0_1, .int .i64 a0_2, .int .i64 a0_3, .int .i64 a0_4, .int .i64 a0_5, .slice A0_6 l0_6.length c0_6, .slice A0_7 l0_7.length c0_7] 25 (0, 0)) (by (with_reducible repeat (first | refine blk_drewN ?_ _ | refine blk_drew ?_ | refine blk_alloc ?_ _)); exact BK710.out) hb); have n2_ := Aside0.mk (blk_below (g := gb711) (o := .cells #[.slice A1_0 l1_0.length c1_0] 30 (0, 0)) (by (with_reducible repeat (first | refine blk_drewN ?_ _ | refine blk_drew ?_ | refine blk_alloc ?_ _)); exact BK711.out) hb); have n3_ := Aside0.mk (blk_below (g := gb716) (o := .cells #[.string a0_0, .int .i64 a0_1, .int .i64 a0_2, .int .i64 a0_3, .int .i64 a0_4, .int .i64 a0_5, .slice Ao80 x717006_2.length co80, .slice A0_7 l0_7.length c0_7] 25 (0, 0)) (by (with_reducible repeat (first | refine blk_drewN ?_ _ | refine blk_drew ?_ | refine blk_alloc ?_ _)); exact BK716.out) hb); have n4_ := Aside0.mk (below_step (by repeat (first | (with_reducible first | exact HB.out | apply below_alloc | apply pw_below_drewN | apply below_drew1 | refine below_set ?_ GE710.out | refine below_set ?_ GE711.out | refine below_set ?_ GE716.out) | exact HB.out)) hb); clear HO_717006; clear BK710; clear BK711; clear BK716; clear HB; have HO_717006 := n0_; have BK710 := n1_; have BK711 := n2_; have BK716 := n3_; have HB := n4_; clear n0_ n1_ n2_ n3_ n4_; (try clear hb); (try clear hb2); (try clear hk); (try clear hi); obtain ⟨hcz85_0, hcz85_1, hcz85_2, hcz85_3, hcz85_4, hcz85_5, hcz85_6, hcz85_7, hfz85_0, hfz85_1, hfz85_2, hfz85_3, hfz85_4, hfz85_5, hfz85_6, hfz85_7⟩ := blk8_ BK716.out; obtain ⟨hcz86_0, hfz86_0⟩ := blk1_ BK711.out) | (go_at_call 13; (with_reducible refine (feas_Feasible.calls a0_0 a0_1 a0_2 a0_3 a0_4 a0_5 _ _ x717006_2 _ _ l0_7 _ _ l1_0 t728 _ ?side1 ?side2 ?side3 ?side4 ?side5 ?side6 A76.out).mono ?_); (case side1 => repeat (first | exact (Kd.R_reads' HO_717006.out).2.2 | (with_reducible refine Kd.C_alloc ?_ _) | (with_reducible refine Kd.C_drewN ?_ _) | (with_reducible refine Kd.C_drew ?_))); (case side2 => exact (Kd.R_reads' HO_717006.out).2.1); (case side3 => repeat (first | exact (Kd.C_below HR0_7.out HB.out) | (with_reducible refine Kd.C_alloc ?_ _) | (with_reducible refine Kd.C_drewN ?_ _) | (with_reducible refine Kd.C_drew ?_))); (case side4 => exact HC0_7.out); (case side5 => repeat (first | exact (Kd.C_below HR1_0.out HB.out) | (with_reducible refine Kd.C_alloc ?_ _) | (with_reducible refine Kd.C_drewN ?_ _) | (with_reducible refine Kd.C_drew ?_))); (case side6 => exact HC1_0.out); rintro e w87 ⟨rfl, hb⟩; have n0_ := Aside0.mk (Kd.R_below (by (with_reducible repeat (first | apply Kd.R_alloc | apply Kd.R_drewN | apply Kd.R_drew)); exact HO_717006.out) hb); have n1_ := Aside0.mk (blk_below (g := gb710) (o := .cells #[.string a0_0, .int .i64 a0_1, .int .i64 a0_2, .int .i64 a0_3, .int .i64 a0_4, .int .i64 a0_5, .slice A0_6 l0_6.length c0_6, .slice A0_7 l0_7.length c0_7] 25 (0, 0)) (by (with_reducible repeat (first | refine blk_drewN ?_ _ | refine blk_drew ?_ | refine blk_alloc ?_ _)); exact BK710.out) hb); have n2_ := Aside0.mk (blk_below (g := gb711) (o := .cells #[.slice A1_0 l1_0.length c1_0] 30 (0, 0)) (by (with_reducible repeat (first | refine blk_drewN ?_ _ | refine blk_drew ?_ | refine blk_alloc ?_ _)); exact BK711.out) hb); have n3_ := Aside0.mk (blk_below (g := gb716) (o := .cells #[.string a0_0, .int .i64 a0_1, .int .i64 a0_2, .int .i64 a0_3, .int .i64 a0_4, .int .i64 a0_5, .slice Ao80 x717006_2.length co80, .slice A0_7 l0_7.length c0_7] 25 (0, 0)) (by (with_reducible repeat (first | refine blk_drewN ?_ _ | refine blk_drew ?_ | refine blk_alloc ?_ _)); exact BK716.out) hb); have n4_ := Aside0.mk (below_step (by repeat (first | (with_reducible first | exact HB.out | apply below_alloc | apply pw_below_drewN | apply below_drew1 | refine below_set ?_ GE710.out | refine below_set ?_ GE711.out | refine below_set ?_ GE716.out) | exact HB.out)) hb); clear HO_717006; clear BK710; clear BK711; clear BK716; clear HB; have HO_717006 := n0_; have BK710 := n1_; have BK711 := n2_; have BK716 := n3_; have HB := n4_; clear n0_ n1_ n2_ n3_ n4_; (try clear hb); (try clear hb2); (try clear hk); (try clear hi)))
          go_ret
          exact ⟨by first | rfl | (simp [errW_none, errW_some] <;> rfl) | (simp [*, errW_none, errW_some] <;> rfl), by repeat (first | (with_reducible first | exact HB.out | apply below_alloc | apply pw_below_drewN | apply below_drew1 | refine below_set ?_ GE710.out | refine below_set ?_ GE711.out | refine below_set ?_ GE716.out) | exact HB.out)⟩
         ·replace c75 := Bool.eq_false_iff.mpr c75
          subst c75
          have H1 : (some true) = some r := by rw [if_neg (show ¬ (false = true) by decide)] at H; exact H
          clear H
          have H := H1
          clear H1
          obtain rfl := Option.some.inj H
          have hnb88 := NB716_710.out
          have hnc88 := NB710_716.out
          have hnb89 := NB716_711.out
          have hnc89 := NB711_716.out
          obtain ⟨hcz90_0, hcz90_1, hcz90_2, hcz90_3, hcz90_4, hcz90_5, hcz90_6, hcz90_7, hfz90_0, hfz90_1, hfz90_2, hfz90_3, hfz90_4, hfz90_5, hfz90_6, hfz90_7⟩ := blk8_ BK716.out
          obtain ⟨Ao91, co91, eo91⟩ := Kd.R_slice HO_717006.out
          subst eo91
          have hnb92 := NB710_711.out
          have hnc92 := NB711_710.out
          obtain ⟨hcz93_0, hcz93_1, hcz93_2, hcz93_3, hcz93_4, hcz93_5, hcz93_6, hcz93_7, hfz93_0, hfz93_1, hfz93_2, hfz93_3, hfz93_4, hfz93_5, hfz93_6, hfz93_7⟩ := blk8_ BK710.out
          obtain ⟨hcz94_0, hfz94_0⟩ := blk1_ BK711.out
          go_wp2_with (first | ((with_reducible refine gate_callee (f := 13) rfl ?_); refine goesL_ (some 79) rfl rfl Try.func13 (by kernel_rfl) rfl #[.agg #[.string a0_0, .int .i64 a0_1, .int .i64 a0_2, .int .i64 a0_3, .int .i64 a0_4, .int .i64 a0_5, .slice A0_6 l0_6.length c0_6, .slice A0_7 l0_7.length c0_7], .agg #[.slice A1_0 l1_0.length c1_0]] rfl (by (try simp only [List.map_toArray, List.map_cons, List.map_nil]); first | done | rfl | (simp only [List.length_drop, List.length_take]; rfl)) ?_; (with_reducible refine (feas_Feasible.calls a0_0 a0_1 a0_2 a0_3 a0_4 a0_5 _ _ l0_6 _ _ l0_7 _ _ l1_0 false _ ?side1 ?side2 ?side3 ?side4 ?side5 ?side6 A74.out).mono ?_); (case side1 => repeat (first | exact (Kd.C_below HR0_6.out HB.out) | (with_reducible refine Kd.C_alloc ?_ _) | (with_reducible refine Kd.C_drewN ?_ _) | (with_reducible refine Kd.C_drew ?_))); (case side2 => exact HC0_6.out); (case side3 => repeat (first | exact (Kd.C_below HR0_7.out HB.out) | (with_reducible refine Kd.C_alloc ?_ _) | (with_reducible refine Kd.C_drewN ?_ _) | (with_reducible refine Kd.C_drew ?_))); (case side4 => exact HC0_7.out); (case side5 => repeat (first | exact (Kd.C_below HR1_0.out HB.out) | (with_reducible refine Kd.C_alloc ?_ _) | (with_reducible refine Kd.C_drewN ?_ _) | (with_reducible refine Kd.C_drew ?_))); (case side6 => exact HC1_0.out); rintro e w95 ⟨rfl, hb⟩; refine ⟨_, rfl, ?_⟩; have n0_ := Aside0.mk (Kd.R_below (by (with_reducible repeat (first | apply Kd.R_alloc | apply Kd.R_drewN | apply Kd.R_drew)); exact HO_717006.out) hb); have n1_ := Aside0.mk (blk_below (g := gb710) (o := .cells #[.string a0_0, .int .i64 a0_1, .int .i64 a0_2, .int .i64 a0_3, .int .i64 a0_4, .int .i64 a0_5, .slice A0_6 l0_6.length c0_6, .slice A0_7 l0_7.length c0_7] 25 (0, 0)) (by (with_reducible repeat (first | refine blk_drewN ?_ _ | refine blk_drew ?_ | refine blk_alloc ?_ _)); exact BK710.out) hb); have n2_ := Aside0.mk (blk_below (g := gb711) (o := .cells #[.slice A1_0 l1_0.length c1_0] 30 (0, 0)) (by (with_reducible repeat (first | refine blk_drewN ?_ _ | refine blk_drew ?_ | refine blk_alloc ?_ _)); exact BK711.out) hb); have n3_ := Aside0.mk (blk_below (g := gb716) (o := .cells #[.string a0_0, .int .i64 a0_1, .int .i64 a0_2, .int .i64 a0_3, .int .i64 a0_4, .int .i64 a0_5, .slice Ao91 x717006_2.length co91, .slice A0_7 l0_7.length c0_7] 25 (0, 0)) (by (with_reducible repeat (first | refine blk_drewN ?_ _ | refine blk_drew ?_ | refine blk_alloc ?_ _)); exact BK716.out) hb); have n4_ := Aside0.mk (below_step (by repeat (first | (with_reducible first | exact HB.out | apply below_alloc | apply pw_below_drewN | apply below_drew1 | refine below_set ?_ GE710.out | refine below_set ?_ GE711.out | refine below_set ?_ GE716.out) | exact HB.out)) hb); clear HO_717006; clear BK710; clear BK711; clear BK716; clear HB; have HO_717006 := n0_; have BK710 := n1_; have BK711 := n2_; have BK716 := n3_; have HB := n4_; clear n0_ n1_ n2_ n3_ n4_; (try clear hb); (try clear hb2); (try clear hk); (try clear hi)))
          go_ret
          exact ⟨by first | rfl | (simp [errW_none, errW_some] <;> rfl) | (simp [*, errW_none, errW_some] <;> rfl), by repeat (first | (with_reducible first | exact HB.out | apply below_alloc | apply pw_below_drewN | apply below_drew1 | refine below_set ?_ GE710.out | refine below_set ?_ GE711.out | refine below_set ?_ GE716.out) | exact HB.out)⟩
        ·rw [if_neg c73] at H
         have c73b0 : (a0_1 == 1) = false := beq_eq_false_iff_ne.mpr c73
         have c73b1 : (a0_1 != 1) = true := bne_iff_ne.mpr c73
         obtain ⟨ji96, hji96⟩ : ∃ j_ : Int, (mn (wrap64 (a0_4 + (wrap64 (a2)))) 100000000) = j_ := ⟨_, rfl⟩
         replace H : (if a0_5 > 0 then ((feas_Feasible.f a0_0 a0_1 a0_2 a0_3 a0_4 a0_5 l0_6 l0_7 l1_0).bind fun t729 => (if t729 = true then ((feas_Feasible.f a0_0 a0_1 a0_2 a0_3 (ji96) (mn (wrap64 (a0_5 + (wrap64 (a2)))) 400) x717006_2 l0_7 l1_0).bind fun t730 => (some t730)) else (some true))) else ((feas_Feasible.f a0_0 a0_1 a0_2 a0_3 a0_4 a0_5 l0_6 l0_7 l1_0).bind fun t731 => (if t731 = true then ((feas_Feasible.f a0_0 a0_1 a0_2 a0_3 (ji96) a0_5 x717006_2 l0_7 l1_0).bind fun t732 => (some t732)) else (some true)))) = some r := by first | (rw [hji96] at H; exact H) | (simp only [hji96] at H ⊢; exact H)
         have hji96_ : (if 100000000 < (wrap64 (a0_4 + (wrap64 (a2)))) then 100000000 else (wrap64 (a0_4 + (wrap64 (a2))))) = ji96 := hji96
         by_cases c97 : a0_5 > 0
         ·rw [if_pos c97] at H
          have c97b0 : decide (0 < a0_5) = true := decide_eq_true c97
          clear c97
          obtain ⟨ji98, hji98⟩ : ∃ j_ : Int, (mn (wrap64 (a0_5 + (wrap64 (a2)))) 400) = j_ := ⟨_, rfl⟩
          replace H : ((feas_Feasible.f a0_0 a0_1 a0_2 a0_3 a0_4 a0_5 l0_6 l0_7 l1_0).bind fun t729 => (if t729 = true then ((feas_Feasible.f a0_0 a0_1 a0_2 a0_3 (ji96) (ji98) x717006_2 l0_7 l1_0).bind fun t730 => (some t730)) else (some true))) = some r := by first | (rw [hji98] at H; exact H) | (simp only [hji98] at H ⊢; exact H)
          have hji98_ : (if 400 < (wrap64 (a0_5 + (wrap64 (a2)))) then 400 else (wrap64 (a0_5 + (wrap64 (a2))))) = ji98 := hji98
          replace H := Option.bind_eq_some_iff.mp H
          obtain ⟨t729, A990, H⟩ := H
          replace H : (if t729 = true then ((feas_Feasible.f a0_0 a0_1 a0_2 a0_3 (ji96) (ji98) x717006_2 l0_7 l1_0).bind fun t730 => (some t730)) else (some true)) = some r := H
          have A99 := Aside0.mk A990
          clear A990
          by_cases c100 : t729 = true
          ·subst c100
           have H1 : ((feas_Feasible.f a0_0 a0_1 a0_2 a0_3 (ji96) (ji98) x717006_2 l0_7 l1_0).bind fun t730 => (some t730)) = some r := by rw [if_pos rfl] at H; exact H
           clear H
           have H := H1
           clear H1
           replace H := Option.bind_eq_some_iff.mp H
           obtain ⟨t730, A1010, H⟩ := H
           replace H : (some t730) = some r := H
           have A101 := Aside0.mk A1010
           clear A1010
           obtain rfl := Option.some.inj H
           have hnb102 := NB716_710.out
           have hnc102 := NB710_716.out
           have hnb103 := NB716_711.out
           have hnc103 := NB711_716.out
           obtain ⟨hcz104_0, hcz104_1, hcz104_2, hcz104_3, hcz104_4, hcz104_5, hcz104_6, hcz104_7, hfz104_0, hfz104_1, hfz104_2, hfz104_3, hfz104_4, hfz104_5, hfz104_6, hfz104_7⟩ := blk8_ BK716.out
           obtain ⟨Ao105, co105, eo105⟩ := Kd.R_slice HO_717006.out
           subst eo105
           have hnb106 := NB710_711.out
           have hnc106 := NB711_710.out
           obtain ⟨hcz107_0, hcz107_1, hcz107_2, hcz107_3, hcz107_4, hcz107_5, hcz107_6, hcz107_7, hfz107_0, hfz107_1, hfz107_2, hfz107_3, hfz107_4, hfz107_5, hfz107_6, hfz107_7⟩ := blk8_ BK710.out
           obtain ⟨hcz108_0, hfz108_0⟩ := blk1_ BK711.out
           go_wp2_with (first | ((with_reducible refine gate_callee (f := 13) rfl ?_); refine goesL_ (some 79) rfl rfl Try.func13 (by kernel_rfl) rfl #[.agg #[.string a0_0, .int .i64 a0_1, .int .i64 a0_2, .int .i64 a0_3, .int .i64 a0_4, .int .i64 a0_5, .slice A0_6 l0_6.length c0_6, .slice A0_7 l0_7.length c0_7], .agg #[.slice A1_0 l1_0.length c1_0]] rfl (by (try simp only [List.map_toArray, List.map_cons, List.map_nil]); first | done | rfl | (simp only [List.length_drop, List.length_take]; rfl)) ?_; (with_reducible refine (feas_Feasible.calls a0_0 a0_1 a0_2 a0_3 a0_4 a0_5 _ _ l0_6 _ _ l0_7 _ _ l1_0 true _ ?side1 ?side2 ?side3 ?side4 ?side5 ?side6 A99.out).mono ?_); (case side1 => exact Kd.C_below HR0_6.out (by repeat (first | (with_reducible first | exact HB.out | apply below_alloc | apply pw_below_drewN | apply below_drew1 | refine below_set ?_ GE710.out | refine below_set ?_ GE711.out | refine below_set ?_ GE716.out) | exact HB.out))); (case side2 => exact HC0_6.out); (case side3 => exact Kd.C_below HR0_7.out (by repeat (first | (with_reducible first | exact HB.out | apply below_alloc | apply pw_below_drewN | apply below_drew1 | refine below_set ?_ GE710.out | refine below_set ?_ GE711.out | refine below_set ?_ GE716.out) | exact HB.out))); (case side4 => exact HC0_7.out); (case side5 => exact Kd.C_below HR1_0.out (by repeat (first | (with_reducible first | exact HB.out | apply below_alloc | apply pw_below_drewN | apply below_drew1 | refine below_set ?_ GE710.out | refine below_set ?_ GE711.out | refine below_set ?_ GE716.out) | exact HB.out))); (case side6 => exact HC1_0.out); rintro e w109 ⟨rfl, hb⟩; refine ⟨_, rfl, ?_⟩; have n0_ := Aside0.mk (Kd.R_below (by (with_reducible repeat (first | apply Kd.R_alloc | apply Kd.R_drewN | apply Kd.R_drew)); exact (Kd.R_mono (Kd.R_far (p := ⟨gb716, 5, none⟩) (Kd.R_far (p := ⟨gb716, 4, none⟩) (Kd.R_types HO_717006.out BK716.out (by decide)) (fun _ hk => hk.2) (.int .i64 ji96)) (fun _ hk => hk.2) (.int .i64 ji98)) (fun _ h_ => h_.1))) hb); have n1_ := Aside0.mk (blk_below (g := gb710) (o := .cells #[.string a0_0, .int .i64 a0_1, .int .i64 a0_2, .int .i64 a0_3, .int .i64 a0_4, .int .i64 a0_5, .slice A0_6 l0_6.length c0_6, .slice A0_7 l0_7.length c0_7] 25 (0, 0)) (by (with_reducible repeat (first | refine blk_drewN ?_ _ | refine blk_drew ?_ | refine blk_alloc ?_ _)); refine blk_far ?_ NB710_716.out _; (with_reducible repeat (first | refine blk_drewN ?_ _ | refine blk_drew ?_ | refine blk_alloc ?_ _)); refine blk_far ?_ NB710_716.out _; (with_reducible repeat (first | refine blk_drewN ?_ _ | refine blk_drew ?_ | refine blk_alloc ?_ _)); exact BK710.out) hb); have n2_ := Aside0.mk (blk_below (g := gb711) (o := .cells #[.slice A1_0 l1_0.length c1_0] 30 (0, 0)) (by (with_reducible repeat (first | refine blk_drewN ?_ _ | refine blk_drew ?_ | refine blk_alloc ?_ _)); refine blk_far ?_ NB711_716.out _; (with_reducible repeat (first | refine blk_drewN ?_ _ | refine blk_drew ?_ | refine blk_alloc ?_ _)); refine blk_far ?_ NB711_716.out _; (with_reducible repeat (first | refine blk_drewN ?_ _ | refine blk_drew ?_ | refine blk_alloc ?_ _)); exact BK711.out) hb); have n3_ := Aside0.mk (blk_below (g := gb716) (o := .cells #[.string a0_0, .int .i64 a0_1, .int .i64 a0_2, .int .i64 a0_3, .int .i64 ji96, .int .i64 ji98, .slice Ao105 x717006_2.length co105, .slice A0_7 l0_7.length c0_7] 25 (0, 0)) (by (with_reducible repeat (first | refine blk_drewN ?_ _ | refine blk_drew ?_ | refine blk_alloc ?_ _)); refine blk_put (cs := #[.string a0_0, .int .i64 a0_1, .int .i64 a0_2, .int .i64 a0_3, .int .i64 ji96, .int .i64 a0_5, .slice Ao105 x717006_2.length co105, .slice A0_7 l0_7.length c0_7]) ?_ 5 _ rfl; (with_reducible repeat (first | refine blk_drewN ?_ _ | refine blk_drew ?_ | refine blk_alloc ?_ _)); refine blk_put (cs := #[.string a0_0, .int .i64 a0_1, .int .i64 a0_2, .int .i64 a0_3, .int .i64 a0_4, .int .i64 a0_5, .slice Ao105 x717006_2.length co105, .slice A0_7 l0_7.length c0_7]) ?_ 4 _ rfl; (with_reducible repeat (first | refine blk_drewN ?_ _ | refine blk_drew ?_ | refine blk_alloc ?_ _)); exact BK716.out) hb); have n4_ := Aside0.mk (below_step (by repeat (first | (with_reducible first | exact HB.out | apply below_alloc | apply pw_below_drewN | apply below_drew1 | refine below_set ?_ GE710.out | refine below_set ?_ GE711.out | refine below_set ?_ GE716.out) | exact HB.out)) hb); clear HO_717006; clear BK710; clear BK711; clear BK716; clear HB; have HO_717006 := n0_; have BK710 := n1_; have BK711 := n2_; have BK716 := n3_; have HB := n4_; clear n0_ n1_ n2_ n3_ n4_; (try clear hb); (try clear hb2); (try clear hk); (try clear hi); obtain ⟨hcz110_0, hcz110_1, hcz110_2, hcz110_3, hcz110_4, hcz110_5, hcz110_6, hcz110_7, hfz110_0, hfz110_1, hfz110_2, hfz110_3, hfz110_4, hfz110_5, hfz110_6, hfz110_7⟩ := blk8_ BK716.out; obtain ⟨hcz111_0, hfz111_0⟩ := blk1_ BK711.out) | (go_at_call 13; (with_reducible refine (feas_Feasible.calls a0_0 a0_1 a0_2 a0_3 ji96 ji98 _ _ x717006_2 _ _ l0_7 _ _ l1_0 t730 _ ?side1 ?side2 ?side3 ?side4 ?side5 ?side6 A101.out).mono ?_); (case side1 => repeat (first | exact (Kd.R_reads' HO_717006.out).2.2 | (with_reducible refine Kd.C_alloc ?_ _) | (with_reducible refine Kd.C_drewN ?_ _) | (with_reducible refine Kd.C_drew ?_))); (case side2 => exact (Kd.R_reads' HO_717006.out).2.1); (case side3 => repeat (first | exact (Kd.C_below HR0_7.out HB.out) | (with_reducible refine Kd.C_alloc ?_ _) | (with_reducible refine Kd.C_drewN ?_ _) | (with_reducible refine Kd.C_drew ?_))); (case side4 => exact HC0_7.out); (case side5 => repeat (first | exact (Kd.C_below HR1_0.out HB.out) | (with_reducible refine Kd.C_alloc ?_ _) | (with_reducible refine Kd.C_drewN ?_ _) | (with_reducible refine Kd.C_drew ?_))); (case side6 => exact HC1_0.out); rintro e w112 ⟨rfl, hb⟩; have n0_ := Aside0.mk (Kd.R_below (by (with_reducible repeat (first | apply Kd.R_alloc | apply Kd.R_drewN | apply Kd.R_drew)); exact HO_717006.out) hb); have n1_ := Aside0.mk (blk_below (g := gb710) (o := .cells #[.string a0_0, .int .i64 a0_1, .int .i64 a0_2, .int .i64 a0_3, .int .i64 a0_4, .int .i64 a0_5, .slice A0_6 l0_6.length c0_6, .slice A0_7 l0_7.length c0_7] 25 (0, 0)) (by (with_reducible repeat (first | refine blk_drewN ?_ _ | refine blk_drew ?_ | refine blk_alloc ?_ _)); exact BK710.out) hb); have n2_ := Aside0.mk (blk_below (g := gb711) (o := .cells #[.slice A1_0 l1_0.length c1_0] 30 (0, 0)) (by (with_reducible repeat (first | refine blk_drewN ?_ _ | refine blk_drew ?_ | refine blk_alloc ?_ _)); exact BK711.out) hb); have n3_ := Aside0.mk (blk_below (g := gb716) (o := .cells #[.string a0_0, .int .i64 a0_1, .int .i64 a0_2, .int .i64 a0_3, .int .i64 ji96, .int .i64 ji98, .slice Ao105 x717006_2.length co105, .slice A0_7 l0_7.length c0_7] 25 (0, 0)) (by (with_reducible repeat (first | refine blk_drewN ?_ _ | refine blk_drew ?_ | refine blk_alloc ?_ _)); exact BK716.out) hb); have n4_ := Aside0.mk (below_step (by repeat (first | (with_reducible first | exact HB.out | apply below_alloc | apply pw_below_drewN | apply below_drew1 | refine below_set ?_ GE710.out | refine below_set ?_ GE711.out | refine below_set ?_ GE716.out) | exact HB.out)) hb); clear HO_717006; clear BK710; clear BK711; clear BK716; clear HB; have HO_717006 := n0_; have BK710 := n1_; have BK711 := n2_; have BK716 := n3_; have HB := n4_; clear n0_ n1_ n2_ n3_ n4_; (try clear hb); (try clear hb2); (try clear hk); (try clear hi)))
           go_ret
           exact ⟨by first | rfl | (simp [errW_none, errW_some] <;> rfl) | (simp only [← hji96, ← hji98]; first | rfl | (simp [errW_none, errW_some] <;> rfl)) | (simp [*, errW_none, errW_some] <;> rfl), by repeat (first | (with_reducible first | exact HB.out | apply below_alloc | apply pw_below_drewN | apply below_drew1 | refine below_set ?_ GE710.out | refine below_set ?_ GE711.out | refine below_set ?_ GE716.out) | exact HB.out)⟩
          ·replace c100 := Bool.eq_false_iff.mpr c100
           subst c100
           have H1 : (some true) = some r := by rw [if_neg (show ¬ (false = true) by decide)] at H; exact H
           clear H
           have H := H1
           clear H1
           obtain rfl := Option.some.inj H
           have hnb113 := NB716_710.out
           have hnc113 := NB710_716.out
           have hnb114 := NB716_711.out
           have hnc114 := NB711_716.out
           obtain ⟨hcz115_0, hcz115_1, hcz115_2, hcz115_3, hcz115_4, hcz115_5, hcz115_6, hcz115_7, hfz115_0, hfz115_1, hfz115_2, hfz115_3, hfz115_4, hfz115_5, hfz115_6, hfz115_7⟩ := blk8_ BK716.out
           obtain ⟨Ao116, co116, eo116⟩ := Kd.R_slice HO_717006.out
           subst eo116
           have hnb117 := NB710_711.out
           have hnc117 := NB711_710.out
           obtain ⟨hcz118_0, hcz118_1, hcz118_2, hcz118_3, hcz118_4, hcz118_5, hcz118_6, hcz118_7, hfz118_0, hfz118_1, hfz118_2, hfz118_3, hfz118_4, hfz118_5, hfz118_6, hfz118_7⟩ := blk8_ BK710.out
           obtain ⟨hcz119_0, hfz119_0⟩ := blk1_ BK711.out
           go_wp2_with (first | ((with_reducible refine gate_callee (f := 13) rfl ?_); refine goesL_ (some 79) rfl rfl Try.func13 (by kernel_rfl) rfl #[.agg #[.string a0_0, .int .i64 a0_1, .int .i64 a0_2, .int .i64 a0_3, .int .i64 a0_4, .int .i64 a0_5, .slice A0_6 l0_6.length c0_6, .slice A0_7 l0_7.length c0_7], .agg #[.slice A1_0 l1_0.length c1_0]] rfl (by (try simp only [List.map_toArray, List.map_cons, List.map_nil]); first | done | rfl | (simp only [List.length_drop, List.length_take]; rfl)) ?_; (with_reducible refine (feas_Feasible.calls a0_0 a0_1 a0_2 a0_3 a0_4 a0_5 _ _ l0_6 _ _ l0_7 _ _ l1_0 false _ ?side1 ?side2 ?side3 ?side4 ?side5 ?side6 A99.out).mono ?_); (case side1 => exact Kd.C_below HR0_6.out (by repeat (first | (with_reducible first | exact HB.out | apply below_alloc | apply pw_below_drewN | apply below_drew1 | refine below_set ?_ GE710.out | refine below_set ?_ GE711.out | refine below_set ?_ GE716.out) | exact HB.out))); (case side2 => exact HC0_6.out); (case side3 => exact Kd.C_below HR0_7.out (by repeat (first | (with_reducible first | exact HB.out | apply below_alloc | apply pw_below_drewN | apply below_drew1 | refine below_set ?_ GE710.out | refine below_set ?_ GE711.out | refine below_set ?_ GE716.out) | exact HB.out))); (case side4 => exact HC0_7.out); (case side5 => exact Kd.C_below HR1_0.out (by repeat (first | (with_reducible first | exact HB.out | apply below_alloc | apply pw_below_drewN | apply below_drew1 | refine below_set ?_ GE710.out | refine below_set ?_ GE711.out | refine below_set ?_ GE716.out) | exact HB.out))); (case side6 => exact HC1_0.out); rintro e w120 ⟨rfl, hb⟩; refine ⟨_, rfl, ?_⟩; have n0_ := Aside0.mk (Kd.R_below (by (with_reducible repeat (first | apply Kd.R_alloc | apply Kd.R_drewN | apply Kd.R_drew)); exact (Kd.R_mono (Kd.R_far (p := ⟨gb716, 5, none⟩) (Kd.R_far (p := ⟨gb716, 4, none⟩) (Kd.R_types HO_717006.out BK716.out (by decide)) (fun _ hk => hk.2) (.int .i64 ji96)) (fun _ hk => hk.2) (.int .i64 ji98)) (fun _ h_ => h_.1))) hb); have n1_ := Aside0.mk (blk_below (g := gb710) (o := .cells #[.string a0_0, .int .i64 a0_1, .int .i64 a0_2, .int .i64 a0_3, .int .i64 a0_4, .int .i64 a0_5, .slice A0_6 l0_6.length c0_6, .slice A0_7 l0_7.length c0_7] 25 (0, 0)) (by (with_reducible repeat (first | refine blk_drewN ?_ _ | refine blk_drew ?_ | refine blk_alloc ?_ _)); refine blk_far ?_ NB710_716.out _; (with_reducible repeat (first | refine blk_drewN ?_ _ | refine blk_drew ?_ | refine blk_alloc ?_ _)); refine blk_far ?_ NB710_716.out _; (with_reducible repeat (first | refine blk_drewN ?_ _ | refine blk_drew ?_ | refine blk_alloc ?_ _)); exact BK710.out) hb); have n2_ := Aside0.mk (blk_below (g := gb711) (o := .cells #[.slice A1_0 l1_0.length c1_0] 30 (0, 0)) (by (with_reducible repeat (first | refine blk_drewN ?_ _ | refine blk_drew ?_ | refine blk_alloc ?_ _)); refine blk_far ?_ NB711_716.out _; (with_reducible repeat (first | refine blk_drewN ?_ _ | refine blk_drew ?_ | refine blk_alloc ?_ _)); refine blk_far ?_ NB711_716.out _; (with_reducible repeat (first | refine blk_drewN ?_ _ | refine blk_drew ?_ | refine blk_alloc ?_ _)); exact BK711.out) hb); have n3_ := Aside0.mk (blk_below (g := gb716) (o := .cells #[.string a0_0, .int .i64 a0_1, .int .i64 a0_2, .int .i64 a0_3, .int .i64 ji96, .int .i64 ji98, .slice Ao116 x717006_2.length co116, .slice A0_7 l0_7.length c0_7] 25 (0, 0)) (by (with_reducible repeat (first | refine blk_drewN ?_ _ | refine blk_drew ?_ | refine blk_alloc ?_ _)); refine blk_put (cs := #[.string a0_0, .int .i64 a0_1, .int .i64 a0_2, .int .i64 a0_3, .int .i64 ji96, .int .i64 a0_5, .slice Ao116 x717006_2.length co116, .slice A0_7 l0_7.length c0_7]) ?_ 5 _ rfl; (with_reducible repeat (first | refine blk_drewN ?_ _ | refine blk_drew ?_ | refine blk_alloc ?_ _)); refine blk_put (cs := #[.string a0_0, .int .i64 a0_1, .int .i64 a0_2, .int .i64 a0_3, .int .i64 a0_4, .int .i64 a0_5, .slice Ao116 x717006_2.length co116, .slice A0_7 l0_7.length c0_7]) ?_ 4 _ rfl; (with_reducible repeat (first | refine blk_drewN ?_ _ | refine blk_drew ?_ | refine blk_alloc ?_ _)); exact BK716.out) hb); have n4_ := Aside0.mk (below_step (by repeat (first | (with_reducible first | exact HB.out | apply below_alloc | apply pw_below_drewN | apply below_drew1 | refine below_set ?_ GE710.out | refine below_set ?_ GE711.out | refine below_set ?_ GE716.out) | exact HB.out)) hb); clear HO_717006; clear BK710; clear BK711; clear BK716; clear HB; have HO_717006 := n0_; have BK710 := n1_; have BK711 := n2_; have BK716 := n3_; have HB := n4_; clear n0_ n1_ n2_ n3_ n4_; (try clear hb); (try clear hb2); (try clear hk); (try clear hi)))
           go_ret
           exact ⟨by first | rfl | (simp [errW_none, errW_some] <;> rfl) | (simp only [← hji96, ← hji98]; first | rfl | (simp [errW_none, errW_some] <;> rfl)) | (simp [*, errW_none, errW_some] <;> rfl), by repeat (first | (with_reducible first | exact HB.out | apply below_alloc | apply pw_below_drewN | apply below_drew1 | refine below_set ?_ GE710.out | refine below_set ?_ GE711.out | refine below_set ?_ GE716.out) | exact HB.out)⟩
         ·rw [if_neg c97] at H
          have c97b0 : decide (0 < a0_5) = false := decide_eq_false c97
          clear c97
          replace H := Option.bind_eq_some_iff.mp H
          obtain ⟨t731, A1210, H⟩ := H
          replace H : (if t731 = true then ((feas_Feasible.f a0_0 a0_1 a0_2 a0_3 (ji96) a0_5 x717006_2 l0_7 l1_0).bind fun t732 => (some t732)) else (some true)) = some r := H
          have A121 := Aside0.mk A1210
          clear A1210
          by_cases c122 : t731 = true
          ·subst c122
           have H1 : ((feas_Feasible.f a0_0 a0_1 a0_2 a0_3 (ji96) a0_5 x717006_2 l0_7 l1_0).bind fun t732 => (some t732)) = some r := by rw [if_pos rfl] at H; exact H
           clear H
           have H := H1
           clear H1
           replace H := Option.bind_eq_some_iff.mp H
           obtain ⟨t732, A1230, H⟩ := H
           replace H : (some t732) = some r := H
           have A123 := Aside0.mk A1230
           clear A1230
           obtain rfl := Option.some.inj H
           have hnb124 := NB716_710.out
           have hnc124 := NB710_716.out
           have hnb125 := NB716_711.out
           have hnc125 := NB711_716.out
           obtain ⟨hcz126_0, hcz126_1, hcz126_2, hcz126_3, hcz126_4, hcz126_5, hcz126_6, hcz126_7, hfz126_0, hfz126_1, hfz126_2, hfz126_3, hfz126_4, hfz126_5, hfz126_6, hfz126_7⟩ := blk8_ BK716.out
           obtain ⟨Ao127, co127, eo127⟩ := Kd.R_slice HO_717006.out
           subst eo127
           have hnb128 := NB710_711.out
           have hnc128 := NB711_710.out
           obtain ⟨hcz129_0, hcz129_1, hcz129_2, hcz129_3, hcz129_4, hcz129_5, hcz129_6, hcz129_7, hfz129_0, hfz129_1, hfz129_2, hfz129_3, hfz129_4, hfz129_5, hfz129_6, hfz129_7⟩ := blk8_ BK710.out
           obtain ⟨hcz130_0, hfz130_0⟩ := blk1_ BK711.out
           go_wp2_with (first | ((with_reducible refine gate_callee (f := 13) rfl ?_); refine goesL_ (some 79) rfl rfl Try.func13 (by kernel_rfl) rfl #[.agg #[.string a0_0, .int .i64 a0_1, .int .i64 a0_2, .int .i64 a0_3, .int .i64 a0_4, .int .i64 a0_5, .slice A0_6 l0_6.length c0_6, .slice A0_7 l0_7.length c0_7], .agg #[.slice A1_0 l1_0.length c1_0]] rfl (by (try simp only [List.map_toArray, List.map_cons, List.map_nil]); first | done | rfl | (simp only [List.length_drop, List.length_take]; rfl)) ?_; (with_reducible refine (feas_Feasible.calls a0_0 a0_1 a0_2 a0_3 a0_4 a0_5 _ _ l0_6 _ _ l0_7 _ _ l1_0 true _ ?side1 ?side2 ?side3 ?side4 ?side5 ?side6 A121.out).mono ?_); (case side1 => exact Kd.C_below HR0_6.out (by repeat (first | (with_reducible first | exact HB.out | apply below_alloc | apply pw_below_drewN | apply below_drew1 | refine below_set ?_ GE710.out | refine below_set ?_ GE711.out | refine below_set ?_ GE716.out) | exact HB.out))); (case side2 => exact HC0_6.out); (case side3 => exact Kd.C_below HR0_7.out (by repeat (first | (with_reducible first | exact HB.out | apply below_alloc | apply pw_below_drewN | apply below_drew1 | refine below_set ?_ GE710.out | refine below_set ?_ GE711.out | refine below_set ?_ GE716.out) | exact HB.out))); (case side4 => exact HC0_7.out); (case side5 => exact Kd.C_below HR1_0.out (by repeat (first | (with_reducible first | exact HB.out | apply below_alloc | apply pw_below_drewN | apply below_drew1 | refine below_set ?_ GE710.out | refine below_set ?_ GE711.out | refine below_set ?_ GE716.out) | exact HB.out))); (case side6 => exact HC1_0.out); rintro e w131 ⟨rfl, hb⟩; refine ⟨_, rfl, ?_⟩; have n0_ := Aside0.mk (Kd.R_below (by (with_reducible repeat (first | apply Kd.R_alloc | apply Kd.R_drewN | apply Kd.R_drew)); exact (Kd.R_mono (Kd.R_far (p := ⟨gb716, 4, none⟩) (Kd.R_types HO_717006.out BK716.out (by decide)) (fun _ hk => hk.2) (.int .i64 ji96)) (fun _ h_ => h_.1))) hb); have n1_ := Aside0.mk (blk_below (g := gb710) (o := .cells #[.string a0_0, .int .i64 a0_1, .int .i64 a0_2, .int .i64 a0_3, .int .i64 a0_4, .int .i64 a0_5, .slice A0_6 l0_6.length c0_6, .slice A0_7 l0_7.length c0_7] 25 (0, 0)) (by (with_reducible repeat (first | refine blk_drewN ?_ _ | refine blk_drew ?_ | refine blk_alloc ?_ _)); refine blk_far ?_ NB710_716.out _; (with_reducible repeat (first | refine blk_drewN ?_ _ | refine blk_drew ?_ | refine blk_alloc ?_ _)); exact BK710.out) hb); have n2_ := Aside0.mk (blk_below (g := gb711) (o := .cells #[.slice A1_0 l1_0.length c1_0] 30 (0, 0)) (by (with_reducible repeat (first | refine blk_drewN ?_ _ | refine blk_drew ?_ | refine blk_alloc ?_ _)); refine blk_far ?_ NB711_716.out _; (with_reducible repeat (first | refine blk_drewN ?_ _ | refine blk_drew ?_ | refine blk_alloc ?_ _)); exact BK711.out) hb); have n3_ := Aside0.mk (blk_below (g := gb716) (o := .cells #[.string a0_0, .int .i64 a0_1, .int .i64 a0_2, .int .i64 a0_3, .int .i64 ji96, .int .i64 a0_5, .slice Ao127 x717006_2.length co127, .slice A0_7 l0_7.length c0_7] 25 (0, 0)) (by (with_reducible repeat (first | refine blk_drewN ?_ _ | refine blk_drew ?_ | refine blk_alloc ?_ _)); refine blk_put (cs := #[.string a0_0, .int .i64 a0_1, .int .i64 a0_2, .int .i64 a0_3, .int .i64 a0_4, .int .i64 a0_5, .slice Ao127 x717006_2.length co127, .slice A0_7 l0_7.length c0_7]) ?_ 4 _ rfl; (with_reducible repeat (first | refine blk_drewN ?_ _ | refine blk_drew ?_ | refine blk_alloc ?_ _)); exact BK716.out) hb); have n4_ := Aside0.mk (below_step (by repeat (first | (with_reducible first | exact HB.out | apply below_alloc | apply pw_below_drewN | apply below_drew1 | refine below_set ?_ GE710.out | refine below_set ?_ GE711.out | refine below_set ?_ GE716.out) | exact HB.out)) hb); clear HO_717006; clear BK710; clear BK711; clear BK716; clear HB; have HO_717006 := n0_; have BK710 := n1_; have BK711 := n2_; have BK716 := n3_; have HB := n4_; clear n0_ n1_ n2_ n3_ n4_; (try clear hb); (try clear hb2); (try clear hk); (try clear hi); obtain ⟨hcz132_0, hcz132_1, hcz132_2, hcz132_3, hcz132_4, hcz132_5, hcz132_6, hcz132_7, hfz132_0, hfz132_1, hfz132_2, hfz132_3, hfz132_4, hfz132_5, hfz132_6, hfz132_7⟩ := blk8_ BK716.out; obtain ⟨hcz133_0, hfz133_0⟩ := blk1_ BK711.out) | (go_at_call 13; (with_reducible refine (feas_Feasible.calls a0_0 a0_1 a0_2 a0_3 ji96 a0_5 _ _ x717006_2 _ _ l0_7 _ _ l1_0 t732 _ ?side1 ?side2 ?side3 ?side4 ?side5 ?side6 A123.out).mono ?_); (case side1 => repeat (first | exact (Kd.R_reads' HO_717006.out).2.2 | (with_reducible refine Kd.C_alloc ?_ _) | (with_reducible refine Kd.C_drewN ?_ _) | (with_reducible refine Kd.C_drew ?_))); (case side2 => exact (Kd.R_reads' HO_717006.out).2.1); (case side3 => repeat (first | exact (Kd.C_below HR0_7.out HB.out) | (with_reducible refine Kd.C_alloc ?_ _) | (with_reducible refine Kd.C_drewN ?_ _) | (with_reducible refine Kd.C_drew ?_))); (case side4 => exact HC0_7.out); (case side5 => repeat (first | exact (Kd.C_below HR1_0.out HB.out) | (with_reducible refine Kd.C_alloc ?_ _) | (with_reducible refine Kd.C_drewN ?_ _) | (with_reducible refine Kd.C_drew ?_))); (case side6 => exact HC1_0.out); rintro e w134 ⟨rfl, hb⟩; have n0_ := Aside0.mk (Kd.R_below (by (with_reducible repeat (first | apply Kd.R_alloc | apply Kd.R_drewN | apply Kd.R_drew)); exact HO_717006.out) hb); have n1_ := Aside0.mk (blk_below (g := gb710) (o := .cells #[.string a0_0, .int .i64 a0_1, .int .i64 a0_2, .int .i64 a0_3, .int .i64 a0_4, .int .i64 a0_5, .slice A0_6 l0_6.length c0_6, .slice A0_7 l0_7.length c0_7] 25 (0, 0)) (by (with_reducible repeat (first | refine blk_drewN ?_ _ | refine blk_drew ?_ | refine blk_alloc ?_ _)); exact BK710.out) hb); have n2_ := Aside0.mk (blk_below (g := gb711) (o := .cells #[.slice A1_0 l1_0.length c1_0] 30 (0, 0)) (by (with_reducible repeat (first | refine blk_drewN ?_ _ | refine blk_drew ?_ | refine blk_alloc ?_ _)); exact BK711.out) hb); have n3_ := Aside0.mk (blk_below (g := gb716) (o := .cells #[.string a0_0, .int .i64 a0_1, .int .i64 a0_2, .int .i64 a0_3, .int .i64 ji96, .int .i64 a0_5, .slice Ao127 x717006_2.length co127, .slice A0_7 l0_7.length c0_7] 25 (0, 0)) (by (with_reducible repeat (first | refine blk_drewN ?_ _ | refine blk_drew ?_ | refine blk_alloc ?_ _)); exact BK716.out) hb); have n4_ := Aside0.mk (below_step (by repeat (first | (with_reducible first | exact HB.out | apply below_alloc | apply pw_below_drewN | apply below_drew1 | refine below_set ?_ GE710.out | refine below_set ?_ GE711.out | refine below_set ?_ GE716.out) | exact HB.out)) hb); clear HO_717006; clear BK710; clear BK711; clear BK716; clear HB; have HO_717006 := n0_; have BK710 := n1_; have BK711 := n2_; have BK716 := n3_; have HB := n4_; clear n0_ n1_ n2_ n3_ n4_; (try clear hb); (try clear hb2); (try clear hk); (try clear hi)))
           go_ret
           exact ⟨by first | rfl | (simp [errW_none, errW_some] <;> rfl) | (simp only [← hji96]; first | rfl | (simp [errW_none, errW_some] <;> rfl)) | (simp [*, errW_none, errW_some] <;> rfl), by repeat (first | (with_reducible first | exact HB.out | apply below_alloc | apply pw_below_drewN | apply below_drew1 | refine below_set ?_ GE710.out | refine below_set ?_ GE711.out | refine below_set ?_ GE716.out) | exact HB.out)⟩
          ·replace c122 := Bool.eq_false_iff.mpr c122
           subst c122
           have H1 : (some true) = some r := by rw [if_neg (show ¬ (false = true) by decide)] at H; exact H
           clear H
           have H := H1
           clear H1
           obtain rfl := Option.some.inj H
           have hnb135 := NB716_710.out
           have hnc135 := NB710_716.out
           have hnb136 := NB716_711.out
           have hnc136 := NB711_716.out
           obtain ⟨hcz137_0, hcz137_1, hcz137_2, hcz137_3, hcz137_4, hcz137_5, hcz137_6, hcz137_7, hfz137_0, hfz137_1, hfz137_2, hfz137_3, hfz137_4, hfz137_5, hfz137_6, hfz137_7⟩ := blk8_ BK716.out
           obtain ⟨Ao138, co138, eo138⟩ := Kd.R_slice HO_717006.out
           subst eo138
           have hnb139 := NB710_711.out
           have hnc139 := NB711_710.out
           obtain ⟨hcz140_0, hcz140_1, hcz140_2, hcz140_3, hcz140_4, hcz140_5, hcz140_6, hcz140_7, hfz140_0, hfz140_1, hfz140_2, hfz140_3, hfz140_4, hfz140_5, hfz140_6, hfz140_7⟩ := blk8_ BK710.out
           obtain ⟨hcz141_0, hfz141_0⟩ := blk1_ BK711.out
           go_wp2_with (first | ((with_reducible refine gate_callee (f := 13) rfl ?_); refine goesL_ (some 79) rfl rfl Try.func13 (by kernel_rfl) rfl #[.agg #[.string a0_0, .int .i64 a0_1, .int .i64 a0_2, .int .i64 a0_3, .int .i64 a0_4, .int .i64 a0_5, .slice A0_6 l0_6.length c0_6, .slice A0_7 l0_7.length c0_7], .agg #[.slice A1_0 l1_0.length c1_0]] rfl (by (try simp only [List.map_toArray, List.map_cons, List.map_nil]); first | done | rfl | (simp only [List.length_drop, List.length_take]; rfl)) ?_; (with_reducible refine (feas_Feasible.calls a0_0 a0_1 a0_2 a0_3 a0_4 a0_5 _ _ l0_6 _ _ l0_7 _ _ l1_0 false _ ?side1 ?side2 ?side3 ?side4 ?side5 ?side6 A121.out).mono ?_); (case side1 => exact Kd.C_below HR0_6.out (by repeat (first | (with_reducible first | exact HB.out | apply below_alloc | apply pw_below_drewN | apply below_drew1 | refine below_set ?_ GE710.out | refine below_set ?_ GE711.out | refine below_set ?_ GE716.out) | exact HB.out))); (case side2 => exact HC0_6.out); (case side3 => exact Kd.C_below HR0_7.out (by repeat (first | (with_reducible first | exact HB.out | apply below_alloc | apply pw_below_drewN | apply below_drew1 | refine below_set ?_ GE710.out | refine below_set ?_ GE711.out | refine below_set ?_ GE716.out) | exact HB.out))); (case side4 => exact HC0_7.out); (case side5 => exact Kd.C_below HR1_0.out (by repeat (first | (with_reducible first | exact HB.out | apply below_alloc | apply pw_below_drewN | apply below_drew1 | refine below_set ?_ GE710.out | refine below_set ?_ GE711.out | refine below_set ?_ GE716.out) | exact HB.out))); (case side6 => exact HC1_0.out); rintro e w142 ⟨rfl, hb⟩; refine ⟨_, rfl, ?_⟩; have n0_ := Aside0.mk (Kd.R_below (by (with_reducible repeat (first | apply Kd.R_alloc | apply Kd.R_drewN | apply Kd.R_drew)); exact (Kd.R_mono (Kd.R_far (p := ⟨gb716, 4, none⟩) (Kd.R_types HO_717006.out BK716.out (by decide)) (fun _ hk => hk.2) (.int .i64 ji96)) (fun _ h_ => h_.1))) hb); have n1_ := Aside0.mk (blk_below (g := gb710) (o := .cells #[.string a0_0, .int .i64 a0_1, .int .i64 a0_2, .int .i64 a0_3, .int .i64 a0_4, .int .i64 a0_5, .slice A0_6 l0_6.length c0_6, .slice A0_7 l0_7.length c0_7] 25 (0, 0)) (by (with_reducible repeat (first | refine blk_drewN ?_ _ | refine blk_drew ?_ | refine blk_alloc ?_ _)); refine blk_far ?_ NB710_716.out _; (with_reducible repeat (first | refine blk_drewN ?_ _ | refine blk_drew ?_ | refine blk_alloc ?_ _)); exact BK710.out) hb); have n2_ := Aside0.mk (blk_below (g := gb711) (o := .cells #[.slice A1_0 l1_0.length c1_0] 30 (0, 0)) (by (with_reducible repeat (first | refine blk_drewN ?_ _ | refine blk_drew ?_ | refine blk_alloc ?_ _)); refine blk_far ?_ NB711_716.out _; (with_reducible repeat (first | refine blk_drewN ?_ _ | refine blk_drew ?_ | refine blk_alloc ?_ _)); exact BK711.out) hb); have n3_ := Aside0.mk (blk_below (g := gb716) (o := .cells #[.string a0_0, .int .i64 a0_1, .int .i64 a0_2, .int .i64 a0_3, .int .i64 ji96, .int .i64 a0_5, .slice Ao138 x717006_2.length co138, .slice A0_7 l0_7.length c0_7] 25 (0, 0)) (by (with_reducible repeat (first | refine blk_drewN ?_ _ | refine blk_drew ?_ | refine blk_alloc ?_ _)); refine blk_put (cs := #[.string a0_0, .int .i64 a0_1, .int .i64 a0_2, .int .i64 a0_3, .int .i64 a0_4, .int .i64 a0_5, .slice Ao138 x717006_2.length co138, .slice A0_7 l0_7.length c0_7]) ?_ 4 _ rfl; (with_reducible repeat (first | refine blk_drewN ?_ _ | refine blk_drew ?_ | refine blk_alloc ?_ _)); exact BK716.out) hb); have n4_ := Aside0.mk (below_step (by repeat (first | (with_reducible first | exact HB.out | apply below_alloc | apply pw_below_drewN | apply below_drew1 | refine below_set ?_ GE710.out | refine below_set ?_ GE711.out | refine below_set ?_ GE716.out) | exact HB.out)) hb); clear HO_717006; clear BK710; clear BK711; clear BK716; clear HB; have HO_717006 := n0_; have BK710 := n1_; have BK711 := n2_; have BK716 := n3_; have HB := n4_; clear n0_ n1_ n2_ n3_ n4_; (try clear hb); (try clear hb2); (try clear hk); (try clear hi)))
           go_ret
           exact ⟨by first | rfl | (simp [errW_none, errW_some] <;> rfl) | (simp only [← hji96]; first | rfl | (simp [errW_none, errW_some] <;> rfl)) | (simp [*, errW_none, errW_some] <;> rfl), by repeat (first | (with_reducible first | exact HB.out | apply below_alloc | apply pw_below_drewN | apply below_drew1 | refine below_set ?_ GE710.out | refine below_set ?_ GE711.out | refine below_set ?_ GE716.out) | exact HB.out)⟩
    ·rw [if_neg c29] at H
     exact absurd H (by simp)

end Go.Proofs.Ytlncbckpcmojpaa.P
