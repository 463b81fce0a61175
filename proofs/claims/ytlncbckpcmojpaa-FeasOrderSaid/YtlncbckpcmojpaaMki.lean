/- Texts of this session in one: entrepotref08.Well: its walk, and its contract as printed texts call it.; What the laws of layer 11 ask first: a well-formed instance, a plan that is not too long. Plain lemmas on lists and numb -/
import Derived.Test.YtlncbckpcmojpaaGRef8C
import Derived.Test.YtlncbckpcmojpaaPx0
import Derived.Test.YtlncbckpcmojpaaMka
set_option linter.unusedVariables false
set_option linter.unusedSimpArgs false
namespace Go.Proofs.Ytlncbckpcmojpaa
open Go.RowKit Go.Proofs.YtlncbckpcmojpaaW.PrintWords Go.Proofs.YtlncbckpcmojpaaW.PrintLast Go.Proofs.YtlncbckpcmojpaaW.PrintMore P
namespace Ref08
theorem none_eq (l : List Fault) : ((l.length : Int) == 0) = decide (l = []) := by
  cases l with
  | nil => rfl
  | cons a l => rw [decide_eq_false (by simp)]; simp; omega
set_option maxHeartbeats 8000000 in
set_option maxRecDepth 100000 in
theorem well_c (x : In) (w : World) (hr : x.rows w) (hs : x.nm.size ≤ 4611686018427387904) :
    Calls Try.prog 28 #[x.val] w fun e w' => e = .returned (.bool (wellB x.nm x.kd x.mt x.sc x.cp x.fl x.ns x.mx)) ∧ Below w.heap.size w w' := by
  have hX := heap_alloc_new w (.cells #[.string x.nm, .int .i64 x.kd, .int .i64 x.mt, .int .i64 x.sc, .int .i64 x.cp, .int .i64 x.fl, .slice x.A x.ns.length x.c, .slice x.B x.mx.length x.e] 46)
  have hB : Below w.heap.size w (w.alloc (.cells #[.string x.nm, .int .i64 x.kd, .int .i64 x.mt, .int .i64 x.sc, .int .i64 x.cp, .int .i64 x.fl, .slice x.A x.ns.length x.c, .slice x.B x.mx.length x.e] 46)) := (Below.refl _ w).alloc (Nat.le_refl _) _
  generalize hW1 : w.alloc (.cells #[.string x.nm, .int .i64 x.kd, .int .i64 x.mt, .int .i64 x.sc, .int .i64 x.cp, .int .i64 x.fl, .slice x.A x.ns.length x.c, .slice x.B x.mx.length x.e] 46) = W1 at *
  have HCk := Lib.hid (check_c x W1 (hr.below hB) hs)
  have HB := Lib.hid hB
  have HW := Lib.hid hW1
  unfold wellB
  have HE := Lib.hid (none_eq (faultsOf x.nm x.kd x.mt x.sc x.cp x.fl x.ns x.mx))
  generalize faultsOf x.nm x.kd x.mt x.sc x.cp x.fl x.ns x.mx = fs at *
  unfold In.val at *
  obtain ⟨k0, k1, k2, k3, k4, k5, k6, k7, -⟩ := blk8_ hX
  clear hX hB hW1 hr hs
  go_enter Try.func28, Try.ntmps28
  go_upto_region 1 with (fail)
  rw [HW.out]
  go_wp2_with fail
  refine HCk.out.mono ?_
  rintro e w3 ⟨v, rfl, hR, hb⟩
  obtain ⟨A1, c1, rfl⟩ := Kd.R_slice hR
  have HB3 := Lib.hid hb
  clear hR hb HCk
  go_wp2
  go_ret
  exact ⟨congrArg (fun b : Bool => Ending.returned (.bool b)) HE.out, below_step HB.out HB3.out⟩
end Ref08
namespace P
/-- Is it well-formed? -/
def entrepotref08_Well.f (k : Nat) (nm : ByteArray) (kd mt sc cp fl : Int) (ns : List Ref08.Node) (mx : List Int) : Option Bool := if nm.size ≤ 4611686018427387904 then some (Ref08.wellB nm kd mt sc cp fl ns mx) else none
theorem entrepotref08_Well.mono : ∀ a0 a1 a2 a3 a4 a5 a6 a7 k, LeO (entrepotref08_Well.f k a0 a1 a2 a3 a4 a5 a6 a7) (entrepotref08_Well.f (k + 1) a0 a1 a2 a3 a4 a5 a6 a7) := fun _ _ _ _ _ _ _ _ _ => LeO.refl _
theorem entrepotref08_Well.calls (k : Nat) (nm : ByteArray) (kd mt sc cp fl : Int) (A : Option Addr) (c : Nat) (ns : List Ref08.Node) (B : Option Addr) (e : Nat) (mx : List Int) (r : Bool) (w : World) (h1 : Kd.C k77 w A ns.length ns) (h2 : ns.length ≤ c) (h3 : Kd.C (Kd.int .i64) w B mx.length mx) (h4 : mx.length ≤ e) (h : entrepotref08_Well.f k nm kd mt sc cp fl ns mx = some r) :
    Calls Try.prog 28 #[.agg #[.string nm, .int .i64 kd, .int .i64 mt, .int .i64 sc, .int .i64 cp, .int .i64 fl, .slice A ns.length c, .slice B mx.length e]] w fun e w' => e = .returned (.bool r) ∧ Below w.heap.size w w' := by
  unfold entrepotref08_Well.f at h
  split at h
  · rename_i hs
    cases h
    exact Ref08.well_c ⟨nm, kd, mt, sc, cp, fl, A, c, ns, B, e, mx⟩ w ⟨h1, h2, h3, h4⟩ hs
  · cases h
attribute [irreducible] entrepotref08_Well.f
end P
theorem Ref08.well_ev (nm : ByteArray) (kd mt sc cp fl : Int) (ns : List Ref08.Node) (mx : List Int) (hs : nm.size ≤ 4611686018427387904) : Ev (fun k => entrepotref08_Well.f k nm kd mt sc cp fl ns mx) (wellB nm kd mt sc cp fl ns mx) :=
  Ev.at (K := 0) fun k _ => by unfold P.entrepotref08_Well.f; rw [if_pos hs]
end Go.Proofs.Ytlncbckpcmojpaa
namespace Go.Proofs.Ytlncbckpcmojpaa.P
open Go.RowKit Go.Proofs.YtlncbckpcmojpaaW.PrintWords Go.Proofs.YtlncbckpcmojpaaW.PrintLast Go.Proofs.YtlncbckpcmojpaaW.PrintMore
attribute [local go_sem] max2_int min2_int max_two min_two max_three min_three max_four min_four   -- for this text's walks alone
set_option linter.unusedVariables false
set_option linter.unusedSimpArgs false

/-! ### entrepotlaw11_its: function 20 -/
def entrepotlaw11_its.l0 : Nat → Int → ByteArray → Int → Int → Int → Int → Int → List (S32) → List Int → ByteArray → Int → Int → Int → Int → Int → List (S77) → List Int → Option (ByteArray × Int × Int × Int × Int × Int × (List (S77)) × List Int)
 | 0, _, _, _, _, _, _, _, _, _, _, _, _, _, _, _, _, _ => none
 | k + 1, x4, x130000, x130001, x130002, x130003, x130004, x130005, x130006, x130007, x132000, x132001, x132002, x132003, x132004, x132005, x132006, x132007 => if x4 < (x130006.length : Int) then (if x4 < 420 then (if 0 ≤ x4 then (if x132006.length < 2513169434916 then (entrepotlaw11_its.l0 k (wrap64 (x4 + 1)) x130000 x130001 x130002 x130003 x130004 x130005 x130006 x130007 x132000 x132001 x132002 x132003 x132004 x132005 (x132006 ++ [(⟨(rd_T32 x130006 x4).f0, (rd_T32 x130006 x4).f1, (rd_T32 x130006 x4).f2, (rd_T32 x130006 x4).f3, (rd_T32 x130006 x4).f4, (rd_T32 x130006 x4).f5, (rd_T32 x130006 x4).f6⟩ : S77)]) x132007) else (none)) else (none)) else (some (x132000, x132001, x132002, x132003, x132004, x132005, x132006, x132007))) else (some (x132000, x132001, x132002, x132003, x132004, x132005, x132006, x132007))
def entrepotlaw11_its.f (k : Nat) (a0_0 : ByteArray) (a0_1 : Int) (a0_2 : Int) (a0_3 : Int) (a0_4 : Int) (a0_5 : Int) (l0_6 : List (S32)) (l0_7 : List Int) : Option (ByteArray × Int × Int × Int × Int × Int × (List (S77)) × List Int) := entrepotlaw11_its.l0 k 0 a0_0 a0_1 a0_2 a0_3 a0_4 a0_5 l0_6 l0_7 a0_0 a0_1 a0_2 a0_3 a0_4 a0_5 ([] : List (S77)) l0_7
theorem entrepotlaw11_its.mono_l : ∀ k, (∀ y0 y1 y2 y3 y4 y5 y6 y7 y8 y9 y10 y11 y12 y13 y14 y15 y16, LeO (entrepotlaw11_its.l0 k y0 y1 y2 y3 y4 y5 y6 y7 y8 y9 y10 y11 y12 y13 y14 y15 y16) (entrepotlaw11_its.l0 (k + 1) y0 y1 y2 y3 y4 y5 y6 y7 y8 y9 y10 y11 y12 y13 y14 y15 y16))
 | 0 => fun _ _ _ _ _ _ _ _ _ _ _ _ _ _ _ _ _ r h => by simp [entrepotlaw11_its.l0] at h
 | k + 1 => by
  have ih0 := entrepotlaw11_its.mono_l k
  ·intro y0 y1 y2 y3 y4 y5 y6 y7 y8 y9 y10 y11 y12 y13 y14 y15 y16
   unfold entrepotlaw11_its.l0
   repeat' first
   | (with_reducible exact ih0 _ _ _ _ _ _ _ _ _ _ _ _ _ _ _ _ _)
   | (with_reducible exact LeO.refl _)
   | (with_reducible exact LeO.none _)
   | (with_reducible refine LeO.ite ?_ ?_)
   | (with_reducible refine LeO.bind ?_ (fun _ => ?_))
   | exact ih0 _ _ _ _ _ _ _ _ _ _ _ _ _ _ _ _ _
   | exact LeO.none _
   | refine LeO.ite ?_ ?_
   | refine LeO.bind ?_ (fun _ => ?_)
theorem entrepotlaw11_its.mono : ∀ a0 a1 a2 a3 a4 a5 a6 a7 k, LeO (entrepotlaw11_its.f k a0 a1 a2 a3 a4 a5 a6 a7) (entrepotlaw11_its.f (k + 1) a0 a1 a2 a3 a4 a5 a6 a7) := by
 intro a0 a1 a2 a3 a4 a5 a6 a7 k
 have ih0 := entrepotlaw11_its.mono_l k
 unfold entrepotlaw11_its.f
 repeat' first
   | (with_reducible exact ih0 _ _ _ _ _ _ _ _ _ _ _ _ _ _ _ _ _)
   | (with_reducible exact LeO.refl _)
   | (with_reducible exact LeO.none _)
   | (with_reducible refine LeO.ite ?_ ?_)
   | (with_reducible refine LeO.bind ?_ (fun _ => ?_))
   | exact ih0 _ _ _ _ _ _ _ _ _ _ _ _ _ _ _ _ _
   | exact LeO.none _
   | refine LeO.ite ?_ ?_
   | refine LeO.bind ?_ (fun _ => ?_)
def entrepotlaw11_its.T5 : Bool × List (List Nat × List Nat) := (true, [([], []), ([0], [0]), ([], []), ([2], [2]), ([], []), ([3, 4], [3, 4]), ([5], [5]), ([6], [6]), ([1, 7], [1, 7]), ([0, 1, 2, 3, 4, 5, 6, 7, 8], []), ([9, 8, 8, 0, 1, 2, 3, 4, 5, 6, 7, 8], [8, 9])])
def entrepotlaw11_its.B5 : List Nat := [0, 1, 0, 4, 0, 28, 60, 124, 255, 511, 1023]
theorem entrepotlaw11_its.tab5 : rtab .any (opsOf Try.f20 5) = entrepotlaw11_its.T5 := by kernel_rfl
theorem entrepotlaw11_its.bits5 : waitsOk entrepotlaw11_its.T5.2 entrepotlaw11_its.B5 = true := by kernel_rfl
set_option maxHeartbeats 8000000 in
set_option maxRecDepth 100000 in
theorem entrepotlaw11_its.calls (k : Nat) (a0_0 : ByteArray) (a0_1 : Int) (a0_2 : Int) (a0_3 : Int) (a0_4 : Int) (a0_5 : Int) (A0_6 : Option Addr) (c0_6 : Nat) (l0_6 : List (S32)) (P0_7_ : Nat → Prop) (A0_7 : Option Addr) (c0_7 : Nat) (l0_7 : List Int) (r1 : ByteArray) (r2 : Int) (r3 : Int) (r4 : Int) (r5 : Int) (r6 : Int) (r7 : List (S77)) (r8 : List Int) (w : World) (hr0_6 : Kd.C k32 w A0_6 l0_6.length l0_6) (hc0_6 : l0_6.length ≤ c0_6) (hs0_7 : Kd.V (Kd.int .i64) 3 w w.heap.size (fun k_ => P0_7_ k_) (.slice A0_7 l0_7.length c0_7) l0_7) (h : entrepotlaw11_its.f k a0_0 a0_1 a0_2 a0_3 a0_4 a0_5 l0_6 l0_7 = some (r1, r2, r3, r4, r5, r6, r7, r8)) :
  Calls Try.prog 20 #[.agg #[.string a0_0, .int .i64 a0_1, .int .i64 a0_2, .int .i64 a0_3, .int .i64 a0_4, .int .i64 a0_5, .slice A0_6 l0_6.length c0_6, .slice A0_7 l0_7.length c0_7]] w fun e w' => ∃ v6_ v7_ : Value, e = .returned (.agg #[.string r1, .int .i64 r2, .int .i64 r3, .int .i64 r4, .int .i64 r5, .int .i64 r6, v6_, v7_]) ∧ Kd.R k77 77 w' w.heap.size (fun k_ => (w.heap.size ≤ k_)) v6_ r7 ∧ Kd.V (Kd.int .i64) 3 w' w.heap.size (fun k_ => (P0_7_ k_ ∨ w.heap.size ≤ k_) ∧ some k_ ≠ (v6_ : Value).ownBlock) v7_ r8 ∧ Below w.heap.size w w' := by
 have hu25 := Try.underlying25
 have hu46 := Try.underlying46
 have hu32 := Try.underlying32
 have HR0_6 := Aside0.mk hr0_6
 have HC0_6 := Aside0.mk hc0_6
 clear hr0_6 hc0_6
 have HO0_7 := Aside0.mk (show Kd.V (Kd.int .i64) 3 w w.heap.size (fun k_ => (P0_7_ k_ ∨ w.heap.size ≤ k_)) (.slice A0_7 l0_7.length c0_7) l0_7 from Kd.V_mono hs0_7 (fun k_ hk => .inl hk))
 have HB := Aside0.mk (Below.refl w.heap.size w)
 have H : (entrepotlaw11_its.l0 k 0 a0_0 a0_1 a0_2 a0_3 a0_4 a0_5 l0_6 l0_7 a0_0 a0_1 a0_2 a0_3 a0_4 a0_5 ([] : List (S77)) l0_7) = some (r1, r2, r3, r4, r5, r6, r7, r8) := h
 clear h
 have H' := Aside0.mk H
 clear H
 go_enter Try.func20, Try.ntmps20
 go_wp2_with (first | ((with_reducible refine gate_dst (N := 1) rfl ?_); refine box_event ?hg (N := 1) ?hd (cs := #[.string a0_0, .int .i64 a0_1, .int .i64 a0_2, .int .i64 a0_3, .int .i64 a0_4, .int .i64 a0_5, .slice A0_6 l0_6.length c0_6, .slice A0_7 l0_7.length c0_7]) (t := 25) ?hr ?_; (case hd => rfl); (case hg => rfl); (case hr => first | (go_simp; done) | (go_simp; rfl)); intro gb129 hg w2 hbox hb; have n0_ := Aside0.mk (Kd.V_below (Kd.V_elderB (by (with_reducible repeat (first | apply Kd.V_alloc | apply Kd.V_drewN | apply Kd.V_drew)); exact HO0_7.out) gb129 (Nat.le_of_eq hg.symm)) hb); have n1_ := Aside0.mk (below_step (by repeat (first | (with_reducible first | exact HB.out | apply below_alloc | apply pw_below_drewN | apply below_drew1) | exact HB.out)) hb); have n2_ := Aside0.mk (hbox); have n3_ := Aside0.mk ((by rw [hg]; exact (below_size (by repeat (first | (with_reducible first | exact HB.out | apply below_alloc | apply pw_below_drewN | apply below_drew1) | exact HB.out))) : w.heap.size ≤ gb129)); have n4_ := Aside0.mk ((by rw [hg]; exact (below_size (by repeat (first | (with_reducible first | exact HB.out | apply below_alloc | apply pw_below_drewN | apply below_drew1) | exact HB.out))) : w.heap.size ≤ gb129)); clear HO0_7; clear HB; have HO0_7 := n0_; have HB := n1_; have BK129 := n2_; have GW129 := n3_; have GE129 := n4_; clear n0_ n1_ n2_ n3_ n4_; clear hb hbox hg) | ((with_reducible refine gate_dst (N := 2) rfl ?_); refine box_event ?hg (N := 2) ?hd (cs := #[.string (⟨#[]⟩ : ByteArray), .int .i64 0, .int .i64 0, .int .i64 0, .int .i64 0, .int .i64 0, .slice none 0 0, .slice none 0 0]) (t := 46) ?hr ?_; (case hd => rfl); (case hg => rfl); (case hr => first | (go_simp; done) | (go_simp; rfl)); intro gb130 hg w3 hbox hb; have n0_ := Aside0.mk (Kd.V_below (Kd.V_elderB (by (with_reducible repeat (first | apply Kd.V_alloc | apply Kd.V_drewN | apply Kd.V_drew)); exact HO0_7.out) gb130 (Nat.le_of_eq hg.symm)) hb); have n1_ := Aside0.mk (blk_below (g := gb129) (o := .cells #[.string a0_0, .int .i64 a0_1, .int .i64 a0_2, .int .i64 a0_3, .int .i64 a0_4, .int .i64 a0_5, .slice A0_6 l0_6.length c0_6, .slice A0_7 l0_7.length c0_7] 25 (0, 0)) (by (with_reducible repeat (first | refine blk_drewN ?_ _ | refine blk_drew ?_ | refine blk_alloc ?_ _)); exact BK129.out) hb); have n2_ := Aside0.mk (below_step (by repeat (first | (with_reducible first | exact HB.out | apply below_alloc | apply pw_below_drewN | apply below_drew1 | refine below_set ?_ GE129.out) | exact HB.out)) hb); have n3_ := Aside0.mk (hbox); have n4_ := Aside0.mk ((by rw [hg]; exact (below_size (by repeat (first | (with_reducible first | exact HB.out | apply below_alloc | apply pw_below_drewN | apply below_drew1 | refine below_set ?_ GE129.out) | exact HB.out))) : w.heap.size ≤ gb130)); have n5_ := Aside0.mk ((by rw [hg]; exact (below_size (by repeat (first | (with_reducible first | exact HB.out | apply below_alloc | apply pw_below_drewN | apply below_drew1 | refine below_set ?_ GE129.out) | exact HB.out))) : w.heap.size ≤ gb130)); have n6_ := Aside0.mk ((by rw [hg]; exact Nat.ne_of_lt (blk_lt (g := gb129) (o := .cells #[.string a0_0, .int .i64 a0_1, .int .i64 a0_2, .int .i64 a0_3, .int .i64 a0_4, .int .i64 a0_5, .slice A0_6 l0_6.length c0_6, .slice A0_7 l0_7.length c0_7] 25 (0, 0)) (by (with_reducible repeat (first | refine blk_drewN ?_ _ | refine blk_drew ?_ | refine blk_alloc ?_ _)); exact BK129.out)) : gb129 ≠ gb130)); have n7_ := Aside0.mk ((by rw [hg]; exact Nat.ne_of_gt (blk_lt (g := gb129) (o := .cells #[.string a0_0, .int .i64 a0_1, .int .i64 a0_2, .int .i64 a0_3, .int .i64 a0_4, .int .i64 a0_5, .slice A0_6 l0_6.length c0_6, .slice A0_7 l0_7.length c0_7] 25 (0, 0)) (by (with_reducible repeat (first | refine blk_drewN ?_ _ | refine blk_drew ?_ | refine blk_alloc ?_ _)); exact BK129.out)) : gb130 ≠ gb129)); clear HO0_7; clear BK129; clear HB; have HO0_7 := n0_; have BK129 := n1_; have HB := n2_; have BK130 := n3_; have GW130 := n4_; have GE130 := n5_; have NB129_130 := n6_; have NB130_129 := n7_; clear n0_ n1_ n2_ n3_ n4_ n5_ n6_ n7_; clear hb hbox hg; have hnb4 := NB129_130.out; have hnc4 := NB130_129.out; obtain ⟨hcz5_0, hcz5_1, hcz5_2, hcz5_3, hcz5_4, hcz5_5, hcz5_6, hcz5_7, hfz5_0, hfz5_1, hfz5_2, hfz5_3, hfz5_4, hfz5_5, hfz5_6, hfz5_7⟩ := blk8_ BK129.out) | ((with_reducible refine gate_dst (N := 3) rfl ?_); refine box_event ?hg (N := 3) ?hd (cs := #[.string (⟨#[]⟩ : ByteArray), .int .i64 0, .int .i64 0, .int .i64 0, .int .i64 0, .int .i64 0, .slice none 0 0, .slice none 0 0]) (t := 46) ?hr ?_; (case hd => rfl); (case hg => rfl); (case hr => first | (go_simp; done) | (go_simp; rfl)); intro gb131 hg w6 hbox hb; have n0_ := Aside0.mk (Kd.V_below (Kd.V_elderB (by (with_reducible repeat (first | apply Kd.V_alloc | apply Kd.V_drewN | apply Kd.V_drew)); exact HO0_7.out) gb131 (Nat.le_of_eq hg.symm)) hb); have n1_ := Aside0.mk (blk_below (g := gb129) (o := .cells #[.string a0_0, .int .i64 a0_1, .int .i64 a0_2, .int .i64 a0_3, .int .i64 a0_4, .int .i64 a0_5, .slice A0_6 l0_6.length c0_6, .slice A0_7 l0_7.length c0_7] 25 (0, 0)) (by (with_reducible repeat (first | refine blk_drewN ?_ _ | refine blk_drew ?_ | refine blk_alloc ?_ _)); exact BK129.out) hb); have n2_ := Aside0.mk (blk_below (g := gb130) (o := .cells #[.string (⟨#[]⟩ : ByteArray), .int .i64 0, .int .i64 0, .int .i64 0, .int .i64 0, .int .i64 0, .slice none 0 0, .slice none 0 0] 46 (0, 0)) (by (with_reducible repeat (first | refine blk_drewN ?_ _ | refine blk_drew ?_ | refine blk_alloc ?_ _)); exact BK130.out) hb); have n3_ := Aside0.mk (below_step (by repeat (first | (with_reducible first | exact HB.out | apply below_alloc | apply pw_below_drewN | apply below_drew1 | refine below_set ?_ GE129.out | refine below_set ?_ GE130.out) | exact HB.out)) hb); have n4_ := Aside0.mk (hbox); have n5_ := Aside0.mk ((by rw [hg]; exact (below_size (by repeat (first | (with_reducible first | exact HB.out | apply below_alloc | apply pw_below_drewN | apply below_drew1 | refine below_set ?_ GE129.out | refine below_set ?_ GE130.out) | exact HB.out))) : w.heap.size ≤ gb131)); have n6_ := Aside0.mk ((by rw [hg]; exact (below_size (by repeat (first | (with_reducible first | exact HB.out | apply below_alloc | apply pw_below_drewN | apply below_drew1 | refine below_set ?_ GE129.out | refine below_set ?_ GE130.out) | exact HB.out))) : w.heap.size ≤ gb131)); have n7_ := Aside0.mk ((by rw [hg]; exact Nat.ne_of_lt (blk_lt (g := gb129) (o := .cells #[.string a0_0, .int .i64 a0_1, .int .i64 a0_2, .int .i64 a0_3, .int .i64 a0_4, .int .i64 a0_5, .slice A0_6 l0_6.length c0_6, .slice A0_7 l0_7.length c0_7] 25 (0, 0)) (by (with_reducible repeat (first | refine blk_drewN ?_ _ | refine blk_drew ?_ | refine blk_alloc ?_ _)); exact BK129.out)) : gb129 ≠ gb131)); have n8_ := Aside0.mk ((by rw [hg]; exact Nat.ne_of_gt (blk_lt (g := gb129) (o := .cells #[.string a0_0, .int .i64 a0_1, .int .i64 a0_2, .int .i64 a0_3, .int .i64 a0_4, .int .i64 a0_5, .slice A0_6 l0_6.length c0_6, .slice A0_7 l0_7.length c0_7] 25 (0, 0)) (by (with_reducible repeat (first | refine blk_drewN ?_ _ | refine blk_drew ?_ | refine blk_alloc ?_ _)); exact BK129.out)) : gb131 ≠ gb129)); have n9_ := Aside0.mk ((by rw [hg]; exact Nat.ne_of_lt (blk_lt (g := gb130) (o := .cells #[.string (⟨#[]⟩ : ByteArray), .int .i64 0, .int .i64 0, .int .i64 0, .int .i64 0, .int .i64 0, .slice none 0 0, .slice none 0 0] 46 (0, 0)) (by (with_reducible repeat (first | refine blk_drewN ?_ _ | refine blk_drew ?_ | refine blk_alloc ?_ _)); exact BK130.out)) : gb130 ≠ gb131)); have n10_ := Aside0.mk ((by rw [hg]; exact Nat.ne_of_gt (blk_lt (g := gb130) (o := .cells #[.string (⟨#[]⟩ : ByteArray), .int .i64 0, .int .i64 0, .int .i64 0, .int .i64 0, .int .i64 0, .slice none 0 0, .slice none 0 0] 46 (0, 0)) (by (with_reducible repeat (first | refine blk_drewN ?_ _ | refine blk_drew ?_ | refine blk_alloc ?_ _)); exact BK130.out)) : gb131 ≠ gb130)); clear HO0_7; clear BK129; clear BK130; clear HB; have HO0_7 := n0_; have BK129 := n1_; have BK130 := n2_; have HB := n3_; have BK131 := n4_; have GW131 := n5_; have GE131 := n6_; have NB129_131 := n7_; have NB131_129 := n8_; have NB130_131 := n9_; have NB131_130 := n10_; clear n0_ n1_ n2_ n3_ n4_ n5_ n6_ n7_ n8_ n9_ n10_; clear hb hbox hg; have hnb7 := NB131_129.out; have hnc7 := NB129_131.out; have hnb8 := NB131_130.out; have hnc8 := NB130_131.out; obtain ⟨hcz9_0, hcz9_1, hcz9_2, hcz9_3, hcz9_4, hcz9_5, hcz9_6, hcz9_7, hfz9_0, hfz9_1, hfz9_2, hfz9_3, hfz9_4, hfz9_5, hfz9_6, hfz9_7⟩ := blk8_ BK131.out))
 go_loopg [4] k (fun kq v4 w' => ∃ (x4_1 : Int) (x132006_1 : List (S77)) (u132006 : Value), v4 = .int .i64 x4_1 ∧ Aside0 (entrepotlaw11_its.l0 kq x4_1 a0_0 a0_1 a0_2 a0_3 a0_4 a0_5 l0_6 l0_7 a0_0 a0_1 a0_2 a0_3 a0_4 a0_5 x132006_1 l0_7 = some (r1, r2, r3, r4, r5, r6, r7, r8)) ∧ Aside0 (kq ≤ k) ∧ Aside0 (Kd.V (Kd.int .i64) 3 w' w.heap.size (fun k_ => (P0_7_ k_ ∨ w.heap.size ≤ k_) ∧ some k_ ≠ (u132006 : Value).ownBlock ∧ k_ ≠ gb129 ∧ k_ ≠ gb130 ∧ k_ ≠ gb131) (.slice A0_7 l0_7.length c0_7) l0_7) ∧ Aside0 (Kd.R k77 77 w' w.heap.size (fun k_ => (w.heap.size ≤ k_)) u132006 x132006_1) ∧ Aside0 (Kd.V (Kd.int .i64) 3 w' w.heap.size (fun k_ => (P0_7_ k_ ∨ w.heap.size ≤ k_) ∧ some k_ ≠ (u132006 : Value).ownBlock ∧ k_ ≠ gb129 ∧ k_ ≠ gb130 ∧ k_ ≠ gb131) (.slice A0_7 l0_7.length c0_7) l0_7) ∧ Aside0 (w'.heap[gb129]? = some (.cells #[.string a0_0, .int .i64 a0_1, .int .i64 a0_2, .int .i64 a0_3, .int .i64 a0_4, .int .i64 a0_5, (.slice A0_6 l0_6.length c0_6), (.slice A0_7 l0_7.length c0_7)] 25 (0, 0))) ∧ Aside0 (w'.heap[gb130]? = some (.cells #[.string (⟨#[]⟩ : ByteArray), .int .i64 0, .int .i64 0, .int .i64 0, .int .i64 0, .int .i64 0, (.slice none 0 0), (.slice none 0 0)] 46 (0, 0))) ∧ Aside0 (w'.heap[gb131]? = some (.cells #[.string a0_0, .int .i64 a0_1, .int .i64 a0_2, .int .i64 a0_3, .int .i64 a0_4, .int .i64 a0_5, u132006, (.slice A0_7 l0_7.length c0_7)] 46 (0, 0))) ∧ Aside0 (Below w.heap.size w w'))
 case atStart => exact ⟨(0), (([] : List (S77))), (.slice none 0 0), (by first | rfl | (simp; done) | (simp [*]; done)), H', ⟨Nat.le_refl _⟩, ⟨by (with_reducible repeat (first | apply Kd.V_alloc | apply Kd.V_drewN | apply Kd.V_drew)); exact Kd.V_mono (Kd.V_far (p := ⟨gb131, 7, none⟩) (Kd.V_far (p := ⟨gb131, 6, none⟩) (Kd.V_far (p := ⟨gb131, 5, none⟩) (Kd.V_far (p := ⟨gb131, 4, none⟩) (Kd.V_far (p := ⟨gb131, 3, none⟩) (Kd.V_far (p := ⟨gb131, 2, none⟩) (Kd.V_far (p := ⟨gb131, 1, none⟩) (Kd.V_far (p := ⟨gb131, 0, none⟩) (Kd.V_mono HO0_7.out (fun k_ hk => (⟨hk, hk.2⟩ : _ ∧ k_ ≠ gb131))) (fun _ hk => hk.2) (.string a0_0)) (fun _ hk => hk.2) (.int .i64 a0_1)) (fun _ hk => hk.2) (.int .i64 a0_2)) (fun _ hk => hk.2) (.int .i64 a0_3)) (fun _ hk => hk.2) (.int .i64 a0_4)) (fun _ hk => hk.2) (.int .i64 a0_5)) (fun _ hk => hk.2) (.slice none 0 0)) (fun _ hk => hk.2) (.slice A0_7 l0_7.length c0_7)) (fun _ hk => ⟨hk.1.1.1.1, ⟨(by simp [Value.ownBlock]), ⟨hk.1.1.1.2, ⟨hk.1.1.2, hk.1.2⟩⟩⟩⟩)⟩, ⟨by first | exact Kd.R_nil _ _ _ _ _ | exact Kd.N_nil _ _ _ _ _ | exact Kd.V_nil _ _ _ _ _ | exact Kd.Q_nil _ _ _ _ _ | exact Kd.S_nil _ _ _ _ _⟩, ⟨by (with_reducible repeat (first | apply Kd.V_alloc | apply Kd.V_drewN | apply Kd.V_drew)); exact Kd.V_mono (Kd.V_far (p := ⟨gb131, 7, none⟩) (Kd.V_far (p := ⟨gb131, 6, none⟩) (Kd.V_far (p := ⟨gb131, 5, none⟩) (Kd.V_far (p := ⟨gb131, 4, none⟩) (Kd.V_far (p := ⟨gb131, 3, none⟩) (Kd.V_far (p := ⟨gb131, 2, none⟩) (Kd.V_far (p := ⟨gb131, 1, none⟩) (Kd.V_far (p := ⟨gb131, 0, none⟩) (Kd.V_mono HO0_7.out (fun k_ hk => (⟨hk, hk.2⟩ : _ ∧ k_ ≠ gb131))) (fun _ hk => hk.2) (.string a0_0)) (fun _ hk => hk.2) (.int .i64 a0_1)) (fun _ hk => hk.2) (.int .i64 a0_2)) (fun _ hk => hk.2) (.int .i64 a0_3)) (fun _ hk => hk.2) (.int .i64 a0_4)) (fun _ hk => hk.2) (.int .i64 a0_5)) (fun _ hk => hk.2) (.slice none 0 0)) (fun _ hk => hk.2) (.slice A0_7 l0_7.length c0_7)) (fun _ hk => ⟨hk.1.1.1.1, ⟨(by simp [Value.ownBlock]), ⟨hk.1.1.1.2, ⟨hk.1.1.2, hk.1.2⟩⟩⟩⟩)⟩, ⟨by (with_reducible repeat (first | refine blk_drewN ?_ _ | refine blk_drew ?_ | refine blk_alloc ?_ _)); refine blk_far ?_ NB129_131.out _; (with_reducible repeat (first | refine blk_drewN ?_ _ | refine blk_drew ?_ | refine blk_alloc ?_ _)); refine blk_far ?_ NB129_131.out _; (with_reducible repeat (first | refine blk_drewN ?_ _ | refine blk_drew ?_ | refine blk_alloc ?_ _)); refine blk_far ?_ NB129_131.out _; (with_reducible repeat (first | refine blk_drewN ?_ _ | refine blk_drew ?_ | refine blk_alloc ?_ _)); refine blk_far ?_ NB129_131.out _; (with_reducible repeat (first | refine blk_drewN ?_ _ | refine blk_drew ?_ | refine blk_alloc ?_ _)); refine blk_far ?_ NB129_131.out _; (with_reducible repeat (first | refine blk_drewN ?_ _ | refine blk_drew ?_ | refine blk_alloc ?_ _)); refine blk_far ?_ NB129_131.out _; (with_reducible repeat (first | refine blk_drewN ?_ _ | refine blk_drew ?_ | refine blk_alloc ?_ _)); refine blk_far ?_ NB129_131.out _; (with_reducible repeat (first | refine blk_drewN ?_ _ | refine blk_drew ?_ | refine blk_alloc ?_ _)); refine blk_far ?_ NB129_131.out _; (with_reducible repeat (first | refine blk_drewN ?_ _ | refine blk_drew ?_ | refine blk_alloc ?_ _)); exact BK129.out⟩, ⟨by (with_reducible repeat (first | refine blk_drewN ?_ _ | refine blk_drew ?_ | refine blk_alloc ?_ _)); refine blk_far ?_ NB130_131.out _; (with_reducible repeat (first | refine blk_drewN ?_ _ | refine blk_drew ?_ | refine blk_alloc ?_ _)); refine blk_far ?_ NB130_131.out _; (with_reducible repeat (first | refine blk_drewN ?_ _ | refine blk_drew ?_ | refine blk_alloc ?_ _)); refine blk_far ?_ NB130_131.out _; (with_reducible repeat (first | refine blk_drewN ?_ _ | refine blk_drew ?_ | refine blk_alloc ?_ _)); refine blk_far ?_ NB130_131.out _; (with_reducible repeat (first | refine blk_drewN ?_ _ | refine blk_drew ?_ | refine blk_alloc ?_ _)); refine blk_far ?_ NB130_131.out _; (with_reducible repeat (first | refine blk_drewN ?_ _ | refine blk_drew ?_ | refine blk_alloc ?_ _)); refine blk_far ?_ NB130_131.out _; (with_reducible repeat (first | refine blk_drewN ?_ _ | refine blk_drew ?_ | refine blk_alloc ?_ _)); refine blk_far ?_ NB130_131.out _; (with_reducible repeat (first | refine blk_drewN ?_ _ | refine blk_drew ?_ | refine blk_alloc ?_ _)); refine blk_far ?_ NB130_131.out _; (with_reducible repeat (first | refine blk_drewN ?_ _ | refine blk_drew ?_ | refine blk_alloc ?_ _)); exact BK130.out⟩, ⟨by (with_reducible repeat (first | refine blk_drewN ?_ _ | refine blk_drew ?_ | refine blk_alloc ?_ _)); refine blk_put (cs := #[.string a0_0, .int .i64 a0_1, .int .i64 a0_2, .int .i64 a0_3, .int .i64 a0_4, .int .i64 a0_5, .slice none 0 0, .slice none 0 0]) ?_ 7 _ rfl; (with_reducible repeat (first | refine blk_drewN ?_ _ | refine blk_drew ?_ | refine blk_alloc ?_ _)); refine blk_put (cs := #[.string a0_0, .int .i64 a0_1, .int .i64 a0_2, .int .i64 a0_3, .int .i64 a0_4, .int .i64 a0_5, .slice none 0 0, .slice none 0 0]) ?_ 6 _ rfl; (with_reducible repeat (first | refine blk_drewN ?_ _ | refine blk_drew ?_ | refine blk_alloc ?_ _)); refine blk_put (cs := #[.string a0_0, .int .i64 a0_1, .int .i64 a0_2, .int .i64 a0_3, .int .i64 a0_4, .int .i64 0, .slice none 0 0, .slice none 0 0]) ?_ 5 _ rfl; (with_reducible repeat (first | refine blk_drewN ?_ _ | refine blk_drew ?_ | refine blk_alloc ?_ _)); refine blk_put (cs := #[.string a0_0, .int .i64 a0_1, .int .i64 a0_2, .int .i64 a0_3, .int .i64 0, .int .i64 0, .slice none 0 0, .slice none 0 0]) ?_ 4 _ rfl; (with_reducible repeat (first | refine blk_drewN ?_ _ | refine blk_drew ?_ | refine blk_alloc ?_ _)); refine blk_put (cs := #[.string a0_0, .int .i64 a0_1, .int .i64 a0_2, .int .i64 0, .int .i64 0, .int .i64 0, .slice none 0 0, .slice none 0 0]) ?_ 3 _ rfl; (with_reducible repeat (first | refine blk_drewN ?_ _ | refine blk_drew ?_ | refine blk_alloc ?_ _)); refine blk_put (cs := #[.string a0_0, .int .i64 a0_1, .int .i64 0, .int .i64 0, .int .i64 0, .int .i64 0, .slice none 0 0, .slice none 0 0]) ?_ 2 _ rfl; (with_reducible repeat (first | refine blk_drewN ?_ _ | refine blk_drew ?_ | refine blk_alloc ?_ _)); refine blk_put (cs := #[.string a0_0, .int .i64 0, .int .i64 0, .int .i64 0, .int .i64 0, .int .i64 0, .slice none 0 0, .slice none 0 0]) ?_ 1 _ rfl; (with_reducible repeat (first | refine blk_drewN ?_ _ | refine blk_drew ?_ | refine blk_alloc ?_ _)); refine blk_put (cs := #[.string (⟨#[]⟩ : ByteArray), .int .i64 0, .int .i64 0, .int .i64 0, .int .i64 0, .int .i64 0, .slice none 0 0, .slice none 0 0]) ?_ 0 _ rfl; (with_reducible repeat (first | refine blk_drewN ?_ _ | refine blk_drew ?_ | refine blk_alloc ?_ _)); exact BK131.out⟩, ⟨by repeat (first | (with_reducible first | exact HB.out | apply below_alloc | apply pw_below_drewN | apply below_drew1 | refine below_set ?_ GE129.out | refine below_set ?_ GE130.out | refine below_set ?_ GE131.out) | exact HB.out)⟩⟩
 case round =>
  clear H'
  (try clear hcz5_0); (try clear hcz5_1); (try clear hcz5_2); (try clear hcz5_3); (try clear hcz5_4); (try clear hcz5_5); (try clear hcz5_6); (try clear hcz5_7); (try clear hcz9_0); (try clear hcz9_1); (try clear hcz9_2); (try clear hcz9_3); (try clear hcz9_4); (try clear hcz9_5); (try clear hcz9_6); (try clear hcz9_7); (try clear hfz5_0); (try clear hfz5_1); (try clear hfz5_2); (try clear hfz5_3); (try clear hfz5_4); (try clear hfz5_5); (try clear hfz5_6); (try clear hfz5_7); (try clear hfz9_0); (try clear hfz9_1); (try clear hfz9_2); (try clear hfz9_3); (try clear hfz9_4); (try clear hfz9_5); (try clear hfz9_6); (try clear hfz9_7)
  obtain ⟨x4_1, x132006_1, u132006, rfl, HA, HK1, HO_130007, HO_132006, HO_132007, BK129, BK130, BK131, HB⟩ := hrel
  cases gk with
  | zero => exact absurd HA.out (by simp [entrepotlaw11_its.l0])
  | succ k1 =>
   have H := HA.out
   clear HA
   simp only [entrepotlaw11_its.l0] at H
   by_cases c10 : x4_1 < (l0_6.length : Int)
   ·rw [if_pos c10] at H
    have c10b0 : decide (x4_1 < (l0_6.length : Int)) = true := decide_eq_true c10
    clear c10
    by_cases c11 : x4_1 < 420
    ·rw [if_pos c11] at H
     have c11b0 : decide (x4_1 < 420) = true := decide_eq_true c11
     clear c11
     by_cases c12 : 0 ≤ x4_1
     ·rw [if_pos c12] at H
      have c12b0 : decide (0 ≤ x4_1) = true := decide_eq_true c12
      clear c12
      by_cases c13 : x132006_1.length < 2513169434916
      ·rw [if_pos c13] at H
       have LMc13 := Aside0.mk c13
       clear c13
       obtain ⟨y133, hy133⟩ : ∃ y_ : List (S77), y_ = (x132006_1 ++ [(⟨(rd_T32 l0_6 x4_1).f0, (rd_T32 l0_6 x4_1).f1, (rd_T32 l0_6 x4_1).f2, (rd_T32 l0_6 x4_1).f3, (rd_T32 l0_6 x4_1).f4, (rd_T32 l0_6 x4_1).f5, (rd_T32 l0_6 x4_1).f6⟩ : S77)]) := ⟨_, rfl⟩
       replace H : (entrepotlaw11_its.l0 k1 (wrap64 (x4_1 + 1)) a0_0 a0_1 a0_2 a0_3 a0_4 a0_5 l0_6 l0_7 a0_0 a0_1 a0_2 a0_3 a0_4 a0_5 y133 l0_7) = some (r1, r2, r3, r4, r5, r6, r7, r8) := by first | (rw [hy133]; with_reducible exact H) | (have H2_ := (Option.bind_some _ _).symm.trans H; rw [hy133]; with_reducible exact H2_) | (have H2_ := (Option.bind_some _ _).symm.trans H; with_reducible exact H2_) | with_reducible exact H | (rw [hy133]; exact H) | exact H
       have Ny133 := Aside0.mk hy133
       clear hy133
       have H' := Aside0.mk H
       clear H
       have hnb14 := NB129_130.out
       have hnc14 := NB130_129.out
       have hnb15 := NB129_131.out
       have hnc15 := NB131_129.out
       obtain ⟨hcz16_0, hcz16_1, hcz16_2, hcz16_3, hcz16_4, hcz16_5, hcz16_6, hcz16_7, hfz16_0, hfz16_1, hfz16_2, hfz16_3, hfz16_4, hfz16_5, hfz16_6, hfz16_7⟩ := blk8_ BK129.out
       try go_wp2
       have n0_ := Aside0.mk (Kd.V_drew HO_130007.out)
       have n1_ := Aside0.mk (Kd.R_drew HO_132006.out)
       have n2_ := Aside0.mk (Kd.V_drew HO_132007.out)
       have n3_ := Aside0.mk (blk_drew BK129.out)
       have n4_ := Aside0.mk (blk_drew BK130.out)
       have n5_ := Aside0.mk (blk_drew BK131.out)
       have n6_ := Aside0.mk (below_drew1 HB.out)
       clear HO_130007
       clear HO_132006
       clear HO_132007
       clear BK129
       clear BK130
       clear BK131
       clear HB
       have HO_130007 := n0_
       have HO_132006 := n1_
       have HO_132007 := n2_
       have BK129 := n3_
       have BK130 := n4_
       have BK131 := n5_
       have HB := n6_
       clear n0_ n1_ n2_ n3_ n4_ n5_ n6_
       have p132 : 0 ≤ (x4_1 : Int) := of_decide_eq_true (by first | (with_reducible assumption) | assumption)
       have q132 : x4_1 < (l0_6.length : Int) := of_decide_eq_true (by first | (with_reducible assumption) | assumption)
       obtain ⟨ad132, e132, hx132_0, hx132_1, hx132_2, hx132_3, hx132_4, hx132_5, hx132_6⟩ := at_T32 HR0_6.out x4_1 p132 q132
       have hw132_6 := hx132_6
       have hw132_5 := hx132_5
       have hw132_4 := hx132_4
       have hw132_3 := hx132_3
       have hw132_2 := hx132_2
       have hw132_1 := hx132_1
       have hw132_0 := hx132_0
       cases e132
       replace hx132_0 := (HB.out.cell (World.block_lt_of_cell? w _ hx132_0)).trans hx132_0
       replace hx132_1 := (HB.out.cell (World.block_lt_of_cell? w _ hx132_1)).trans hx132_1
       replace hx132_2 := (HB.out.cell (World.block_lt_of_cell? w _ hx132_2)).trans hx132_2
       replace hx132_3 := (HB.out.cell (World.block_lt_of_cell? w _ hx132_3)).trans hx132_3
       replace hx132_4 := (HB.out.cell (World.block_lt_of_cell? w _ hx132_4)).trans hx132_4
       replace hx132_5 := (HB.out.cell (World.block_lt_of_cell? w _ hx132_5)).trans hx132_5
       replace hx132_6 := (HB.out.cell (World.block_lt_of_cell? w _ hx132_6)).trans hx132_6
       replace p132 := eq_true p132
       replace q132 := eq_true q132
       refine start_ (n := 11) (S := fun w' => w'.cell? ⟨gb131, 0, none⟩ = some (.string a0_0) ∧ w'.cell? ⟨gb131, 1, none⟩ = some (.int .i64 a0_1) ∧ w'.cell? ⟨gb131, 2, none⟩ = some (.int .i64 a0_2) ∧ w'.cell? ⟨gb131, 3, none⟩ = some (.int .i64 a0_3) ∧ w'.cell? ⟨gb131, 4, none⟩ = some (.int .i64 a0_4) ∧ w'.cell? ⟨gb131, 5, none⟩ = some (.int .i64 a0_5) ∧ w'.cell? ⟨gb131, 6, none⟩ = some (u132006) ∧ w'.cell? ⟨gb131, 7, none⟩ = some (.slice A0_7 l0_7.length c0_7) ∧ w'.cell? ⟨gb129, 0, none⟩ = some (.string a0_0) ∧ w'.cell? ⟨gb129, 1, none⟩ = some (.int .i64 a0_1) ∧ w'.cell? ⟨gb129, 2, none⟩ = some (.int .i64 a0_2) ∧ w'.cell? ⟨gb129, 3, none⟩ = some (.int .i64 a0_3) ∧ w'.cell? ⟨gb129, 4, none⟩ = some (.int .i64 a0_4) ∧ w'.cell? ⟨gb129, 5, none⟩ = some (.int .i64 a0_5) ∧ w'.cell? ⟨gb129, 6, none⟩ = some (.slice (some ad132) l0_6.length c0_6) ∧ w'.cell? ⟨gb129, 7, none⟩ = some (.slice A0_7 l0_7.length c0_7) ∧ w'.cell? (ad132.add ((x4_1).toNat * 7)) = some (.int .i64 ((rd_T32 l0_6 x4_1).f0)) ∧ w'.cell? ⟨(ad132.add ((x4_1).toNat * 7)).block, (ad132.add ((x4_1).toNat * 7)).off + 1, none⟩ = some (.int .i64 ((rd_T32 l0_6 x4_1).f1)) ∧ w'.cell? ⟨(ad132.add ((x4_1).toNat * 7)).block, (ad132.add ((x4_1).toNat * 7)).off + 2, none⟩ = some (.int .i64 ((rd_T32 l0_6 x4_1).f2)) ∧ w'.cell? ⟨(ad132.add ((x4_1).toNat * 7)).block, (ad132.add ((x4_1).toNat * 7)).off + 3, none⟩ = some (.int .i64 ((rd_T32 l0_6 x4_1).f3)) ∧ w'.cell? ⟨(ad132.add ((x4_1).toNat * 7)).block, (ad132.add ((x4_1).toNat * 7)).off + 4, none⟩ = some (.int .i64 ((rd_T32 l0_6 x4_1).f4)) ∧ w'.cell? ⟨(ad132.add ((x4_1).toNat * 7)).block, (ad132.add ((x4_1).toNat * 7)).off + 5, none⟩ = some (.int .i64 ((rd_T32 l0_6 x4_1).f5)) ∧ w'.cell? ⟨(ad132.add ((x4_1).toNat * 7)).block, (ad132.add ((x4_1).toNat * 7)).off + 6, none⟩ = some (.int .i64 ((rd_T32 l0_6 x4_1).f6))) (ds := [10]) #[false, false, false, false, false, false, false, false, false, false, false] (by kernel_rfl) rfl rfl ⟨(blk_cell BK131.out 0).trans rfl, (blk_cell BK131.out 1).trans rfl, (blk_cell BK131.out 2).trans rfl, (blk_cell BK131.out 3).trans rfl, (blk_cell BK131.out 4).trans rfl, (blk_cell BK131.out 5).trans rfl, (blk_cell BK131.out 6).trans rfl, (blk_cell BK131.out 7).trans rfl, (blk_cell BK129.out 0).trans rfl, (blk_cell BK129.out 1).trans rfl, (blk_cell BK129.out 2).trans rfl, (blk_cell BK129.out 3).trans rfl, (blk_cell BK129.out 4).trans rfl, (blk_cell BK129.out 5).trans rfl, (blk_cell BK129.out 6).trans rfl, (blk_cell BK129.out 7).trans rfl, ((HB.out.cell (World.block_lt_of_cell? w _ hw132_0)).trans hw132_0), ((HB.out.cell (World.block_lt_of_cell? w _ hw132_1)).trans hw132_1), ((HB.out.cell (World.block_lt_of_cell? w _ hw132_2)).trans hw132_2), ((HB.out.cell (World.block_lt_of_cell? w _ hw132_3)).trans hw132_3), ((HB.out.cell (World.block_lt_of_cell? w _ hw132_4)).trans hw132_4), ((HB.out.cell (World.block_lt_of_cell? w _ hw132_5)).trans hw132_5), ((HB.out.cell (World.block_lt_of_cell? w _ hw132_6)).trans hw132_6)⟩ (fun hHeld => ?_); refine with_tabW entrepotlaw11_its.tab5 entrepotlaw11_its.bits5 (fun HT_ HW_ => ?_)
       generalize wr.drew = w17 at HO_130007 HO_132006 HO_132007 BK129 BK130 BK131 HB hx132_0 hx132_1 hx132_2 hx132_3 hx132_4 hx132_5 hx132_6 hHeld ⊢
       refine pure_ (i := 0) (N := some 31) (v := ?_) (a' := ?_) #[true, false, false, false, false, false, false, false, false, false, false] rfl rfl (any_of HT_.out (by kernel_rfl)) (fun _ _ _ h => h) (Or.inl ⟨by rfl, ?_⟩) ?_ ?_
       rotate_left
       ·intro w'
        go_simp
        with_reducible rfl
       rotate_left
       ·simp only [Act.put, List.setIfInBounds_toArray, List.set_cons_zero, List.set_cons_succ, i64_w, i32_w]
        rfl
       refine pure_ (i := 2) (N := some 33) (v := ?_) (a' := ?_) #[true, false, true, false, false, false, false, false, false, false, false] rfl rfl (any_of HT_.out (by kernel_rfl)) (fun _ _ _ h => h) (Or.inl ⟨by rfl, ?_⟩) ?_ ?_
       rotate_left
       ·intro w'
        go_simp
        with_reducible rfl
       rotate_left
       ·simp only [Act.put, List.setIfInBounds_toArray, List.set_cons_zero, List.set_cons_succ, i64_w, i32_w]
        rfl
       refine pure_ (i := 4) (N := some 35) (v := ?_) (a' := ?_) #[true, false, true, false, true, false, false, false, false, false, false] rfl rfl (any_of HT_.out (by kernel_rfl)) (fun _ _ _ h => h) (Or.inl ⟨by rfl, ?_⟩) ?_ ?_
       rotate_left
       ·intro w'
        go_simp
        with_reducible rfl
       rotate_left
       ·simp only [Act.put, List.setIfInBounds_toArray, List.set_cons_zero, List.set_cons_succ, i64_w, i32_w]
        rfl
       refine take_ (i := 1) (N := some 32) (v := ?_) (a' := ?_) #[true, true, true, false, true, false, false, false, false, false, false] rfl rfl (take_ofW HT_.out HW_.out (by kernel_rfl)) (fun _ _ _ h => h) (Or.inl ⟨by rfl, ?_⟩) hHeld ?_ ?_
       rotate_left
       ·rintro w' ⟨s0, s1, s2, s3, s4, s5, s6, s7, s8, s9, s10, s11, s12, s13, s14, s15, s16, s17, s18, s19, s20, s21, s22⟩
        go_simp
        with_reducible rfl
       rotate_left
       ·simp only [Act.put, List.setIfInBounds_toArray, List.set_cons_zero, List.set_cons_succ, i64_w, i32_w]
        rfl
       refine take_ (i := 3) (N := some 34) (v := ?_) (a' := ?_) #[true, true, true, true, true, false, false, false, false, false, false] rfl rfl (take_ofW HT_.out HW_.out (by kernel_rfl)) (fun _ _ _ h => h) (Or.inl ⟨by rfl, ?_⟩) hHeld ?_ ?_
       rotate_left
       ·rintro w' ⟨s0, s1, s2, s3, s4, s5, s6, s7, s8, s9, s10, s11, s12, s13, s14, s15, s16, s17, s18, s19, s20, s21, s22⟩
        go_simp
        with_reducible rfl
       rotate_left
       ·simp only [Act.put, List.setIfInBounds_toArray, List.set_cons_zero, List.set_cons_succ, i64_w, i32_w]
        rfl
       refine pure_ (i := 5) (N := some 36) (v := ?_) (a' := ?_) #[true, true, true, true, true, true, false, false, false, false, false] rfl rfl (any_of HT_.out (by kernel_rfl)) (fun _ _ _ h => h) (Or.inl ⟨by rfl, ?_⟩) ?_ ?_
       rotate_left
       ·intro w'
        go_simp
        with_reducible rfl
       rotate_left
       ·simp only [Act.put, List.setIfInBounds_toArray, List.set_cons_zero, List.set_cons_succ, i64_w, i32_w]
        rfl
       refine take_ (i := 6) (N := some 37) (v := ?_) (a' := ?_) #[true, true, true, true, true, true, true, false, false, false, false] rfl rfl (take_ofW HT_.out HW_.out (by kernel_rfl)) (fun _ _ _ h => h) (Or.inl ⟨by rfl, ?_⟩) hHeld ?_ ?_
       rotate_left
       ·rintro w' ⟨s0, s1, s2, s3, s4, s5, s6, s7, s8, s9, s10, s11, s12, s13, s14, s15, s16, s17, s18, s19, s20, s21, s22⟩
        go_simp
        with_reducible rfl
       rotate_left
       ·simp only [Act.put, List.setIfInBounds_toArray, List.set_cons_zero, List.set_cons_succ, i64_w, i32_w]
        rfl
       refine one_ (i := 7) (N := some 38) #[true, true, true, true, true, true, true, true, false, false, false] rfl rfl (one_of HT_.out (by kernel_rfl)) (by decide) (fun K hK => ?_)
       refine value_ (w1 := ?_) (v := ?_) (by rfl) rfl ?_ ?_
       rotate_left 2
       ·go_simp
        constructor
        ·rfl
        ·rfl
       refine hK.out _ _ ⟨(blk_cell (blk_alloc BK131.out _) 0).trans rfl, (blk_cell (blk_alloc BK131.out _) 1).trans rfl, (blk_cell (blk_alloc BK131.out _) 2).trans rfl, (blk_cell (blk_alloc BK131.out _) 3).trans rfl, (blk_cell (blk_alloc BK131.out _) 4).trans rfl, (blk_cell (blk_alloc BK131.out _) 5).trans rfl, (blk_cell (blk_alloc BK131.out _) 6).trans rfl, (blk_cell (blk_alloc BK131.out _) 7).trans rfl, (blk_cell (blk_alloc BK129.out _) 0).trans rfl, (blk_cell (blk_alloc BK129.out _) 1).trans rfl, (blk_cell (blk_alloc BK129.out _) 2).trans rfl, (blk_cell (blk_alloc BK129.out _) 3).trans rfl, (blk_cell (blk_alloc BK129.out _) 4).trans rfl, (blk_cell (blk_alloc BK129.out _) 5).trans rfl, (blk_cell (blk_alloc BK129.out _) 6).trans rfl, (blk_cell (blk_alloc BK129.out _) 7).trans rfl, (World.cell?_alloc_lt _ _ _ (World.block_lt_of_cell? _ _ (((HB.out.cell (World.block_lt_of_cell? w _ hw132_0)).trans hw132_0)))).trans (((HB.out.cell (World.block_lt_of_cell? w _ hw132_0)).trans hw132_0)), (World.cell?_alloc_lt _ _ _ (World.block_lt_of_cell? _ _ (((HB.out.cell (World.block_lt_of_cell? w _ hw132_1)).trans hw132_1)))).trans (((HB.out.cell (World.block_lt_of_cell? w _ hw132_1)).trans hw132_1)), (World.cell?_alloc_lt _ _ _ (World.block_lt_of_cell? _ _ (((HB.out.cell (World.block_lt_of_cell? w _ hw132_2)).trans hw132_2)))).trans (((HB.out.cell (World.block_lt_of_cell? w _ hw132_2)).trans hw132_2)), (World.cell?_alloc_lt _ _ _ (World.block_lt_of_cell? _ _ (((HB.out.cell (World.block_lt_of_cell? w _ hw132_3)).trans hw132_3)))).trans (((HB.out.cell (World.block_lt_of_cell? w _ hw132_3)).trans hw132_3)), (World.cell?_alloc_lt _ _ _ (World.block_lt_of_cell? _ _ (((HB.out.cell (World.block_lt_of_cell? w _ hw132_4)).trans hw132_4)))).trans (((HB.out.cell (World.block_lt_of_cell? w _ hw132_4)).trans hw132_4)), (World.cell?_alloc_lt _ _ _ (World.block_lt_of_cell? _ _ (((HB.out.cell (World.block_lt_of_cell? w _ hw132_5)).trans hw132_5)))).trans (((HB.out.cell (World.block_lt_of_cell? w _ hw132_5)).trans hw132_5)), (World.cell?_alloc_lt _ _ _ (World.block_lt_of_cell? _ _ (((HB.out.cell (World.block_lt_of_cell? w _ hw132_6)).trans hw132_6)))).trans (((HB.out.cell (World.block_lt_of_cell? w _ hw132_6)).trans hw132_6))⟩ (fun hHeld => ?_)
       clear hK K
       refine norm_ (a' := ?_) ?_ ?_
       rotate_left
       ·show Act.put _ (some 38) _ = _
        simp only [Act.put, List.setIfInBounds_toArray, List.set_cons_zero, List.set_cons_succ, i64_w, i32_w]
        rfl
       refine one_ (i := 8) (N := some 39) #[true, true, true, true, true, true, true, true, true, false, false] rfl rfl (one_of HT_.out (by kernel_rfl)) (by decide) (fun K hK => ?_)
       refine Kd.R_append_step k77 (w0 := w) w.heap.size (by rfl) (.tmp 32) (.tmp 38) 44 77 (.agg #[(.int .i64 0), (.int .i64 0), (.int .i64 0), (.int .i64 0), (.int .i64 0), (.int .i64 0), (.int .i64 0)]) 56 rfl Try.underlying44 info77 rfl (by decide) (by omega) u132006 x132006_1 (⟨(rd_T32 l0_6 x4_1).f0, (rd_T32 l0_6 x4_1).f1, (rd_T32 l0_6 x4_1).f2, (rd_T32 l0_6 x4_1).f3, (rd_T32 l0_6 x4_1).f4, (rd_T32 l0_6 x4_1).f5, (rd_T32 l0_6 x4_1).f6⟩ : S77) [.int .i64 ((rd_T32 l0_6 x4_1).f0), .int .i64 ((rd_T32 l0_6 x4_1).f1), .int .i64 ((rd_T32 l0_6 x4_1).f2), .int .i64 ((rd_T32 l0_6 x4_1).f3), .int .i64 ((rd_T32 l0_6 x4_1).f4), .int .i64 ((rd_T32 l0_6 x4_1).f5), .int .i64 ((rd_T32 l0_6 x4_1).f6)] (fun k_ => (w.heap.size ≤ k_)) (fun _ => False) rfl rfl ?aP (fun _ hk => hk.elim) ?aF ?aO ?aB ?aS ?aL ?_
       (case aP => exact k77_mkM _ _ _ (⟨(rd_T32 l0_6 x4_1).f0, (rd_T32 l0_6 x4_1).f1, (rd_T32 l0_6 x4_1).f2, (rd_T32 l0_6 x4_1).f3, (rd_T32 l0_6 x4_1).f4, (rd_T32 l0_6 x4_1).f5, (rd_T32 l0_6 x4_1).f6⟩ : S77))
       (case aB => exact (by repeat (first | (with_reducible first | exact HB.out | apply below_alloc | apply pw_below_drewN | apply below_drew1 | refine below_set ?_ GE129.out | refine below_set ?_ GE130.out | refine below_set ?_ GE131.out) | exact HB.out)))
       (case aF => exact (fun k_ hk => (Nat.le_trans (below_size (by repeat (first | (with_reducible first | exact HB.out | apply below_alloc | apply pw_below_drewN | apply below_drew1 | refine below_set ?_ GE129.out | refine below_set ?_ GE130.out | refine below_set ?_ GE131.out) | exact HB.out))) hk)))
       (case aO => exact (by (with_reducible repeat (first | apply Kd.R_alloc | apply Kd.R_drewN | apply Kd.R_drew)); exact HO_132006.out))
       (case aS => exact (below_size (by repeat (first | (with_reducible first | exact HB.out | apply below_alloc | apply pw_below_drewN | apply below_drew1 | refine below_set ?_ GE129.out | refine below_set ?_ GE130.out | refine below_set ?_ GE131.out) | exact HB.out))))
       (case aL => have := LMc13.out; omega)
       intro v134 w18 ho hb hg hat
       rw [← Ny133.out] at ho
       have n0_ := Aside0.mk (Kd.V_afterv (ok := (fun k_ => (P0_7_ k_ ∨ w.heap.size ≤ k_) ∧ k_ ≠ gb129 ∧ k_ ≠ gb130 ∧ k_ ≠ gb131)) (by (with_reducible repeat (first | apply Kd.V_alloc | apply Kd.V_drewN | apply Kd.V_drew)); exact Kd.V_mono HO_130007.out (fun _ hk => ⟨⟨hk.1, ⟨hk.2.2.1, ⟨hk.2.2.2.1, hk.2.2.2.2⟩⟩⟩, hk.2.1⟩)) hg hat)
       have n1_ := Aside0.mk (Kd.V_afterv (ok := (fun k_ => (P0_7_ k_ ∨ w.heap.size ≤ k_) ∧ k_ ≠ gb129 ∧ k_ ≠ gb130 ∧ k_ ≠ gb131)) (by (with_reducible repeat (first | apply Kd.V_alloc | apply Kd.V_drewN | apply Kd.V_drew)); exact Kd.V_mono HO_132007.out (fun _ hk => ⟨⟨hk.1, ⟨hk.2.2.1, ⟨hk.2.2.2.1, hk.2.2.2.2⟩⟩⟩, hk.2.1⟩)) hg hat)
       have n2_ := Aside0.mk (blk_grown (g := gb129) (o := .cells #[.string a0_0, .int .i64 a0_1, .int .i64 a0_2, .int .i64 a0_3, .int .i64 a0_4, .int .i64 a0_5, .slice (some ad132) l0_6.length c0_6, .slice A0_7 l0_7.length c0_7] 25 (0, 0)) (by (with_reducible repeat (first | refine blk_drewN ?_ _ | refine blk_drew ?_ | refine blk_alloc ?_ _)); exact BK129.out) hg (Kd.R_ne HO_132006.out BK129.out (by decide)))
       have n3_ := Aside0.mk (blk_grown (g := gb130) (o := .cells #[.string (⟨#[]⟩ : ByteArray), .int .i64 0, .int .i64 0, .int .i64 0, .int .i64 0, .int .i64 0, .slice none 0 0, .slice none 0 0] 46 (0, 0)) (by (with_reducible repeat (first | refine blk_drewN ?_ _ | refine blk_drew ?_ | refine blk_alloc ?_ _)); exact BK130.out) hg (Kd.R_ne HO_132006.out BK130.out (by decide)))
       have n4_ := Aside0.mk (blk_grown (g := gb131) (o := .cells #[.string a0_0, .int .i64 a0_1, .int .i64 a0_2, .int .i64 a0_3, .int .i64 a0_4, .int .i64 a0_5, u132006, .slice A0_7 l0_7.length c0_7] 46 (0, 0)) (by (with_reducible repeat (first | refine blk_drewN ?_ _ | refine blk_drew ?_ | refine blk_alloc ?_ _)); exact BK131.out) hg (Kd.R_ne HO_132006.out BK131.out (by decide)))
       have n5_ := Aside0.mk (hb)
       have n6_ := Aside0.mk (ho)
       clear HO_130007
       clear HO_132007
       clear BK129
       clear BK130
       clear BK131
       clear HB
       clear HO_132006
       have HO_130007 := n0_
       have HO_132007 := n1_
       have BK129 := n2_
       have BK130 := n3_
       have BK131 := n4_
       have HB := n5_
       have HO135 := n6_
       clear n0_ n1_ n2_ n3_ n4_ n5_ n6_
       clear ho hb hg hat
       obtain ⟨Ao19, co19, eo19⟩ := Kd.R_slice HO135.out
       (first | subst eo19 | (injection eo19 with f1_ f2_ f3_; have f4_ := f1_.symm; have f5_ := f3_.symm; clear f1_ f2_ f3_; subst f4_; subst f5_))
       refine hK.out _ _ ⟨(blk_cell BK131.out 0).trans rfl, (blk_cell BK131.out 1).trans rfl, (blk_cell BK131.out 2).trans rfl, (blk_cell BK131.out 3).trans rfl, (blk_cell BK131.out 4).trans rfl, (blk_cell BK131.out 5).trans rfl, (blk_cell BK131.out 6).trans rfl, (blk_cell BK131.out 7).trans rfl, (blk_cell BK129.out 0).trans rfl, (blk_cell BK129.out 1).trans rfl, (blk_cell BK129.out 2).trans rfl, (blk_cell BK129.out 3).trans rfl, (blk_cell BK129.out 4).trans rfl, (blk_cell BK129.out 5).trans rfl, (blk_cell BK129.out 6).trans rfl, (blk_cell BK129.out 7).trans rfl, ((HB.out.cell (World.block_lt_of_cell? w _ hw132_0)).trans hw132_0), ((HB.out.cell (World.block_lt_of_cell? w _ hw132_1)).trans hw132_1), ((HB.out.cell (World.block_lt_of_cell? w _ hw132_2)).trans hw132_2), ((HB.out.cell (World.block_lt_of_cell? w _ hw132_3)).trans hw132_3), ((HB.out.cell (World.block_lt_of_cell? w _ hw132_4)).trans hw132_4), ((HB.out.cell (World.block_lt_of_cell? w _ hw132_5)).trans hw132_5), ((HB.out.cell (World.block_lt_of_cell? w _ hw132_6)).trans hw132_6)⟩ (fun hHeld => ?_)
       clear hK K
       refine norm_ (a' := ?_) ?_ ?_
       rotate_left
       ·show Act.put _ (some 39) _ = _
        simp only [Act.put, List.setIfInBounds_toArray, List.set_cons_zero, List.set_cons_succ, i64_w, i32_w]
        rfl
       refine pure_ (i := 9) (N := some 40) (v := ?_) (a' := ?_) #[true, true, true, true, true, true, true, true, true, true, false] rfl rfl (any_of HT_.out (by kernel_rfl)) (fun _ _ _ h => h) (Or.inl ⟨by rfl, ?_⟩) ?_ ?_
       rotate_left
       ·intro w'
        go_simp
        with_reducible rfl
       rotate_left
       ·simp only [Act.put, List.setIfInBounds_toArray, List.set_cons_zero, List.set_cons_succ, i64_w, i32_w]
        rfl
       refine last_ (i := 10) (N := none) #[true, true, true, true, true, true, true, true, true, true, true] rfl rfl (one_of HT_.out (by kernel_rfl)) (by decide) (fun K hK => ?_)
       have hs20 : w18.cell? ⟨gb131, 6, none⟩ = some (u132006) := (blk_cell BK131.out 6).trans rfl
       have hfs20 := blk_frozen BK131.out 6
       have hns20_0 := NB129_131.out
       have hns20_1 := NB130_131.out
       have hms20_0 := NB131_129.out
       have hms20_1 := NB131_130.out
       refine skip_ (w1 := ?_) (by rfl) rfl ?_ ?_
       rotate_left
       ·go_simp
        rfl
       refine hK.out _ _ ?_
       clear hK K
       refine done_ (done_of HT_.out (by kernel_rfl)) ?_
       try go_wp2
       go_roundg k1
       case measure => have := HK1.out; omega
       case rel => exact ⟨(wrap64 (x4_1 + 1)), (y133), (.slice Ao19 y133.length co19), (by first | rfl | (simp; done) | (simp [*]; done)), H', ⟨by have := HK1.out; omega⟩, ⟨by (with_reducible repeat (first | apply Kd.V_alloc | apply Kd.V_drewN | apply Kd.V_drew)); exact Kd.V_mono (Kd.V_far (p := ⟨gb131, 6, none⟩) (Kd.V_mono HO_130007.out (fun k_ hk => (⟨hk, hk.1.2.2.2⟩ : _ ∧ k_ ≠ gb131))) (fun _ hk => hk.2) (.slice Ao19 y133.length co19)) (fun _ hk => ⟨hk.1.1.1, ⟨hk.1.2, ⟨hk.1.1.2.1, ⟨hk.1.1.2.2.1, hk.1.1.2.2.2⟩⟩⟩⟩)⟩, ⟨by (with_reducible repeat (first | apply Kd.R_alloc | apply Kd.R_drewN | apply Kd.R_drew)); exact Kd.R_mono (Kd.R_far (p := ⟨gb131, 6, none⟩) (Kd.R_types HO135.out BK131.out (by decide)) (fun _ hk => hk.2) (.slice Ao19 y133.length co19)) (fun _ hk => hk.1)⟩, ⟨by (with_reducible repeat (first | apply Kd.V_alloc | apply Kd.V_drewN | apply Kd.V_drew)); exact Kd.V_mono (Kd.V_far (p := ⟨gb131, 6, none⟩) (Kd.V_mono HO_132007.out (fun k_ hk => (⟨hk, hk.1.2.2.2⟩ : _ ∧ k_ ≠ gb131))) (fun _ hk => hk.2) (.slice Ao19 y133.length co19)) (fun _ hk => ⟨hk.1.1.1, ⟨hk.1.2, ⟨hk.1.1.2.1, ⟨hk.1.1.2.2.1, hk.1.1.2.2.2⟩⟩⟩⟩)⟩, ⟨by (with_reducible repeat (first | refine blk_drewN ?_ _ | refine blk_drew ?_ | refine blk_alloc ?_ _)); refine blk_far ?_ NB129_131.out _; (with_reducible repeat (first | refine blk_drewN ?_ _ | refine blk_drew ?_ | refine blk_alloc ?_ _)); exact BK129.out⟩, ⟨by (with_reducible repeat (first | refine blk_drewN ?_ _ | refine blk_drew ?_ | refine blk_alloc ?_ _)); refine blk_far ?_ NB130_131.out _; (with_reducible repeat (first | refine blk_drewN ?_ _ | refine blk_drew ?_ | refine blk_alloc ?_ _)); exact BK130.out⟩, ⟨by (with_reducible repeat (first | refine blk_drewN ?_ _ | refine blk_drew ?_ | refine blk_alloc ?_ _)); refine blk_put (cs := #[.string a0_0, .int .i64 a0_1, .int .i64 a0_2, .int .i64 a0_3, .int .i64 a0_4, .int .i64 a0_5, u132006, .slice A0_7 l0_7.length c0_7]) ?_ 6 _ rfl; (with_reducible repeat (first | refine blk_drewN ?_ _ | refine blk_drew ?_ | refine blk_alloc ?_ _)); exact BK131.out⟩, ⟨by repeat (first | (with_reducible first | exact HB.out | apply below_alloc | apply pw_below_drewN | apply below_drew1 | refine below_set ?_ GE129.out | refine below_set ?_ GE130.out | refine below_set ?_ GE131.out) | exact HB.out)⟩⟩
      ·rw [if_neg c13] at H
       exact absurd H (by simp)
     ·rw [if_neg c12] at H
      exact absurd H (by simp)
    ·rw [if_neg c11] at H
     have c11b0 : decide (x4_1 < 420) = false := decide_eq_false c11
     clear c11
     simp only [Option.some.injEq, Prod.mk.injEq] at H
     obtain ⟨rfl, rfl, rfl, rfl, rfl, rfl, rfl, rfl⟩ := H
     have hnb21 := NB129_130.out
     have hnc21 := NB130_129.out
     have hnb22 := NB129_131.out
     have hnc22 := NB131_129.out
     obtain ⟨hcz23_0, hcz23_1, hcz23_2, hcz23_3, hcz23_4, hcz23_5, hcz23_6, hcz23_7, hfz23_0, hfz23_1, hfz23_2, hfz23_3, hfz23_4, hfz23_5, hfz23_6, hfz23_7⟩ := blk8_ BK129.out
     have hnb24 := NB131_130.out
     have hnc24 := NB130_131.out
     obtain ⟨hcz25_0, hcz25_1, hcz25_2, hcz25_3, hcz25_4, hcz25_5, hcz25_6, hcz25_7, hfz25_0, hfz25_1, hfz25_2, hfz25_3, hfz25_4, hfz25_5, hfz25_6, hfz25_7⟩ := blk8_ BK131.out
     obtain ⟨hcz26_0, hcz26_1, hcz26_2, hcz26_3, hcz26_4, hcz26_5, hcz26_6, hcz26_7, hfz26_0, hfz26_1, hfz26_2, hfz26_3, hfz26_4, hfz26_5, hfz26_6, hfz26_7⟩ := blk8_ BK130.out
     obtain ⟨Ao27, co27, eo27⟩ := Kd.R_slice HO_132006.out
     subst eo27
     go_wp2
     refine bodyPost_ret (results_cell_row rfl _ _ gb130 46 #[.string a0_0, .int .i64 a0_1, .int .i64 a0_2, .int .i64 a0_3, .int .i64 a0_4, .int .i64 a0_5, .slice Ao27 x132006_1.length co27, .slice A0_7 l0_7.length c0_7] (0, 0) _ rfl (by (with_reducible repeat (first | refine blk_drewN ?_ _ | refine blk_drew ?_ | refine blk_alloc ?_ _)); refine blk_put (cs := #[.string a0_0, .int .i64 a0_1, .int .i64 a0_2, .int .i64 a0_3, .int .i64 a0_4, .int .i64 a0_5, .slice Ao27 x132006_1.length co27, .slice none 0 0]) ?_ 7 _ rfl; (with_reducible repeat (first | refine blk_drewN ?_ _ | refine blk_drew ?_ | refine blk_alloc ?_ _)); refine blk_put (cs := #[.string a0_0, .int .i64 a0_1, .int .i64 a0_2, .int .i64 a0_3, .int .i64 a0_4, .int .i64 a0_5, .slice none 0 0, .slice none 0 0]) ?_ 6 _ rfl; (with_reducible repeat (first | refine blk_drewN ?_ _ | refine blk_drew ?_ | refine blk_alloc ?_ _)); refine blk_put (cs := #[.string a0_0, .int .i64 a0_1, .int .i64 a0_2, .int .i64 a0_3, .int .i64 a0_4, .int .i64 0, .slice none 0 0, .slice none 0 0]) ?_ 5 _ rfl; (with_reducible repeat (first | refine blk_drewN ?_ _ | refine blk_drew ?_ | refine blk_alloc ?_ _)); refine blk_put (cs := #[.string a0_0, .int .i64 a0_1, .int .i64 a0_2, .int .i64 a0_3, .int .i64 0, .int .i64 0, .slice none 0 0, .slice none 0 0]) ?_ 4 _ rfl; (with_reducible repeat (first | refine blk_drewN ?_ _ | refine blk_drew ?_ | refine blk_alloc ?_ _)); refine blk_put (cs := #[.string a0_0, .int .i64 a0_1, .int .i64 a0_2, .int .i64 0, .int .i64 0, .int .i64 0, .slice none 0 0, .slice none 0 0]) ?_ 3 _ rfl; (with_reducible repeat (first | refine blk_drewN ?_ _ | refine blk_drew ?_ | refine blk_alloc ?_ _)); refine blk_put (cs := #[.string a0_0, .int .i64 a0_1, .int .i64 0, .int .i64 0, .int .i64 0, .int .i64 0, .slice none 0 0, .slice none 0 0]) ?_ 2 _ rfl; (with_reducible repeat (first | refine blk_drewN ?_ _ | refine blk_drew ?_ | refine blk_alloc ?_ _)); refine blk_put (cs := #[.string a0_0, .int .i64 0, .int .i64 0, .int .i64 0, .int .i64 0, .int .i64 0, .slice none 0 0, .slice none 0 0]) ?_ 1 _ rfl; (with_reducible repeat (first | refine blk_drewN ?_ _ | refine blk_drew ?_ | refine blk_alloc ?_ _)); refine blk_put (cs := #[.string (⟨#[]⟩ : ByteArray), .int .i64 0, .int .i64 0, .int .i64 0, .int .i64 0, .int .i64 0, .slice none 0 0, .slice none 0 0]) ?_ 0 _ rfl; (with_reducible repeat (first | refine blk_drewN ?_ _ | refine blk_drew ?_ | refine blk_alloc ?_ _)); exact BK130.out) Try.underlying46 rfl (by kernel_rfl)) rfl ?_
     exact ⟨_, _, by first | rfl | (simp [errW_none, errW_some] <;> rfl) | (simp [*, errW_none, errW_some] <;> rfl), by (with_reducible repeat (first | apply Kd.R_alloc | apply Kd.R_drewN | apply Kd.R_drew)); exact Kd.R_mono (Kd.R_far (p := ⟨gb130, 7, none⟩) (Kd.R_far (p := ⟨gb130, 6, none⟩) (Kd.R_far (p := ⟨gb130, 5, none⟩) (Kd.R_far (p := ⟨gb130, 4, none⟩) (Kd.R_far (p := ⟨gb130, 3, none⟩) (Kd.R_far (p := ⟨gb130, 2, none⟩) (Kd.R_far (p := ⟨gb130, 1, none⟩) (Kd.R_far (p := ⟨gb130, 0, none⟩) (Kd.R_types HO_132006.out BK130.out (by decide)) (fun _ hk => hk.2) (.string a0_0)) (fun _ hk => hk.2) (.int .i64 a0_1)) (fun _ hk => hk.2) (.int .i64 a0_2)) (fun _ hk => hk.2) (.int .i64 a0_3)) (fun _ hk => hk.2) (.int .i64 a0_4)) (fun _ hk => hk.2) (.int .i64 a0_5)) (fun _ hk => hk.2) (.slice Ao27 x132006_1.length co27)) (fun _ hk => hk.2) (.slice A0_7 l0_7.length c0_7)) (fun _ hk => hk.1), by (with_reducible repeat (first | apply Kd.V_alloc | apply Kd.V_drewN | apply Kd.V_drew)); exact Kd.V_mono (Kd.V_far (p := ⟨gb130, 7, none⟩) (Kd.V_far (p := ⟨gb130, 6, none⟩) (Kd.V_far (p := ⟨gb130, 5, none⟩) (Kd.V_far (p := ⟨gb130, 4, none⟩) (Kd.V_far (p := ⟨gb130, 3, none⟩) (Kd.V_far (p := ⟨gb130, 2, none⟩) (Kd.V_far (p := ⟨gb130, 1, none⟩) (Kd.V_far (p := ⟨gb130, 0, none⟩) (Kd.V_mono HO_132007.out (fun k_ hk => (⟨hk, hk.2.2.2.1⟩ : _ ∧ k_ ≠ gb130))) (fun _ hk => hk.2) (.string a0_0)) (fun _ hk => hk.2) (.int .i64 a0_1)) (fun _ hk => hk.2) (.int .i64 a0_2)) (fun _ hk => hk.2) (.int .i64 a0_3)) (fun _ hk => hk.2) (.int .i64 a0_4)) (fun _ hk => hk.2) (.int .i64 a0_5)) (fun _ hk => hk.2) (.slice Ao27 x132006_1.length co27)) (fun _ hk => hk.2) (.slice A0_7 l0_7.length c0_7)) (fun _ hk => ⟨hk.1.1, hk.1.2.1⟩), by repeat (first | (with_reducible first | exact HB.out | apply below_alloc | apply pw_below_drewN | apply below_drew1 | refine below_set ?_ GE129.out | refine below_set ?_ GE130.out | refine below_set ?_ GE131.out) | exact HB.out)⟩
   ·rw [if_neg c10] at H
    have c10b0 : decide (x4_1 < (l0_6.length : Int)) = false := decide_eq_false c10
    clear c10
    simp only [Option.some.injEq, Prod.mk.injEq] at H
    obtain ⟨rfl, rfl, rfl, rfl, rfl, rfl, rfl, rfl⟩ := H
    have hnb28 := NB129_130.out
    have hnc28 := NB130_129.out
    have hnb29 := NB129_131.out
    have hnc29 := NB131_129.out
    obtain ⟨hcz30_0, hcz30_1, hcz30_2, hcz30_3, hcz30_4, hcz30_5, hcz30_6, hcz30_7, hfz30_0, hfz30_1, hfz30_2, hfz30_3, hfz30_4, hfz30_5, hfz30_6, hfz30_7⟩ := blk8_ BK129.out
    have hnb31 := NB131_130.out
    have hnc31 := NB130_131.out
    obtain ⟨hcz32_0, hcz32_1, hcz32_2, hcz32_3, hcz32_4, hcz32_5, hcz32_6, hcz32_7, hfz32_0, hfz32_1, hfz32_2, hfz32_3, hfz32_4, hfz32_5, hfz32_6, hfz32_7⟩ := blk8_ BK131.out
    obtain ⟨hcz33_0, hcz33_1, hcz33_2, hcz33_3, hcz33_4, hcz33_5, hcz33_6, hcz33_7, hfz33_0, hfz33_1, hfz33_2, hfz33_3, hfz33_4, hfz33_5, hfz33_6, hfz33_7⟩ := blk8_ BK130.out
    obtain ⟨Ao34, co34, eo34⟩ := Kd.R_slice HO_132006.out
    subst eo34
    go_wp2
    refine bodyPost_ret (results_cell_row rfl _ _ gb130 46 #[.string a0_0, .int .i64 a0_1, .int .i64 a0_2, .int .i64 a0_3, .int .i64 a0_4, .int .i64 a0_5, .slice Ao34 x132006_1.length co34, .slice A0_7 l0_7.length c0_7] (0, 0) _ rfl (by (with_reducible repeat (first | refine blk_drewN ?_ _ | refine blk_drew ?_ | refine blk_alloc ?_ _)); refine blk_put (cs := #[.string a0_0, .int .i64 a0_1, .int .i64 a0_2, .int .i64 a0_3, .int .i64 a0_4, .int .i64 a0_5, .slice Ao34 x132006_1.length co34, .slice none 0 0]) ?_ 7 _ rfl; (with_reducible repeat (first | refine blk_drewN ?_ _ | refine blk_drew ?_ | refine blk_alloc ?_ _)); refine blk_put (cs := #[.string a0_0, .int .i64 a0_1, .int .i64 a0_2, .int .i64 a0_3, .int .i64 a0_4, .int .i64 a0_5, .slice none 0 0, .slice none 0 0]) ?_ 6 _ rfl; (with_reducible repeat (first | refine blk_drewN ?_ _ | refine blk_drew ?_ | refine blk_alloc ?_ _)); refine blk_put (cs := #[.string a0_0, .int .i64 a0_1, .int .i64 a0_2, .int .i64 a0_3, .int .i64 a0_4, .int .i64 0, .slice none 0 0, .slice none 0 0]) ?_ 5 _ rfl; (with_reducible repeat (first | refine blk_drewN ?_ _ | refine blk_drew ?_ | refine blk_alloc ?_ _)); refine blk_put (cs := #[.string a0_0, .int .i64 a0_1, .int .i64 a0_2, .int .i64 a0_3, .int .i64 0, .int .i64 0, .slice none 0 0, .slice none 0 0]) ?_ 4 _ rfl; (with_reducible repeat (first | refine blk_drewN ?_ _ | refine blk_drew ?_ | refine blk_alloc ?_ _)); refine blk_put (cs := #[.string a0_0, .int .i64 a0_1, .int .i64 a0_2, .int .i64 0, .int .i64 0, .int .i64 0, .slice none 0 0, .slice none 0 0]) ?_ 3 _ rfl; (with_reducible repeat (first | refine blk_drewN ?_ _ | refine blk_drew ?_ | refine blk_alloc ?_ _)); refine blk_put (cs := #[.string a0_0, .int .i64 a0_1, .int .i64 0, .int .i64 0, .int .i64 0, .int .i64 0, .slice none 0 0, .slice none 0 0]) ?_ 2 _ rfl; (with_reducible repeat (first | refine blk_drewN ?_ _ | refine blk_drew ?_ | refine blk_alloc ?_ _)); refine blk_put (cs := #[.string a0_0, .int .i64 0, .int .i64 0, .int .i64 0, .int .i64 0, .int .i64 0, .slice none 0 0, .slice none 0 0]) ?_ 1 _ rfl; (with_reducible repeat (first | refine blk_drewN ?_ _ | refine blk_drew ?_ | refine blk_alloc ?_ _)); refine blk_put (cs := #[.string (⟨#[]⟩ : ByteArray), .int .i64 0, .int .i64 0, .int .i64 0, .int .i64 0, .int .i64 0, .slice none 0 0, .slice none 0 0]) ?_ 0 _ rfl; (with_reducible repeat (first | refine blk_drewN ?_ _ | refine blk_drew ?_ | refine blk_alloc ?_ _)); exact BK130.out) Try.underlying46 rfl (by kernel_rfl)) rfl ?_
    exact ⟨_, _, by first | rfl | (simp [errW_none, errW_some] <;> rfl) | (simp [*, errW_none, errW_some] <;> rfl), by (with_reducible repeat (first | apply Kd.R_alloc | apply Kd.R_drewN | apply Kd.R_drew)); exact Kd.R_mono (Kd.R_far (p := ⟨gb130, 7, none⟩) (Kd.R_far (p := ⟨gb130, 6, none⟩) (Kd.R_far (p := ⟨gb130, 5, none⟩) (Kd.R_far (p := ⟨gb130, 4, none⟩) (Kd.R_far (p := ⟨gb130, 3, none⟩) (Kd.R_far (p := ⟨gb130, 2, none⟩) (Kd.R_far (p := ⟨gb130, 1, none⟩) (Kd.R_far (p := ⟨gb130, 0, none⟩) (Kd.R_types HO_132006.out BK130.out (by decide)) (fun _ hk => hk.2) (.string a0_0)) (fun _ hk => hk.2) (.int .i64 a0_1)) (fun _ hk => hk.2) (.int .i64 a0_2)) (fun _ hk => hk.2) (.int .i64 a0_3)) (fun _ hk => hk.2) (.int .i64 a0_4)) (fun _ hk => hk.2) (.int .i64 a0_5)) (fun _ hk => hk.2) (.slice Ao34 x132006_1.length co34)) (fun _ hk => hk.2) (.slice A0_7 l0_7.length c0_7)) (fun _ hk => hk.1), by (with_reducible repeat (first | apply Kd.V_alloc | apply Kd.V_drewN | apply Kd.V_drew)); exact Kd.V_mono (Kd.V_far (p := ⟨gb130, 7, none⟩) (Kd.V_far (p := ⟨gb130, 6, none⟩) (Kd.V_far (p := ⟨gb130, 5, none⟩) (Kd.V_far (p := ⟨gb130, 4, none⟩) (Kd.V_far (p := ⟨gb130, 3, none⟩) (Kd.V_far (p := ⟨gb130, 2, none⟩) (Kd.V_far (p := ⟨gb130, 1, none⟩) (Kd.V_far (p := ⟨gb130, 0, none⟩) (Kd.V_mono HO_132007.out (fun k_ hk => (⟨hk, hk.2.2.2.1⟩ : _ ∧ k_ ≠ gb130))) (fun _ hk => hk.2) (.string a0_0)) (fun _ hk => hk.2) (.int .i64 a0_1)) (fun _ hk => hk.2) (.int .i64 a0_2)) (fun _ hk => hk.2) (.int .i64 a0_3)) (fun _ hk => hk.2) (.int .i64 a0_4)) (fun _ hk => hk.2) (.int .i64 a0_5)) (fun _ hk => hk.2) (.slice Ao34 x132006_1.length co34)) (fun _ hk => hk.2) (.slice A0_7 l0_7.length c0_7)) (fun _ hk => ⟨hk.1.1, hk.1.2.1⟩), by repeat (first | (with_reducible first | exact HB.out | apply below_alloc | apply pw_below_drewN | apply below_drew1 | refine below_set ?_ GE129.out | refine below_set ?_ GE130.out | refine below_set ?_ GE131.out) | exact HB.out)⟩

end Go.Proofs.Ytlncbckpcmojpaa.P
namespace Go.Proofs.Ytlncbckpcmojpaa.P
open Go.RowKit Go.Proofs.YtlncbckpcmojpaaW.PrintWords Go.Proofs.YtlncbckpcmojpaaW.PrintLast Go.Proofs.YtlncbckpcmojpaaW.PrintMore
attribute [local go_sem] max2_int min2_int max_two min_two max_three min_three max_four min_four   -- for this text's walks alone
set_option linter.unusedVariables false
set_option linter.unusedSimpArgs false

/-! ### entrepotlaw11_well: function 11 -/
def entrepotlaw11_well.f (k : Nat) (a0_0 : ByteArray) (a0_1 : Int) (a0_2 : Int) (a0_3 : Int) (a0_4 : Int) (a0_5 : Int) (l0_6 : List (S32)) (l0_7 : List Int) : Option (Bool) := if (l0_6.length : Int) ≤ 400 then (if (l0_7.length : Int) ≤ 1000 then (if (a0_0.size : Int) ≤ 100 then ((entrepotlaw11_its.f k a0_0 a0_1 a0_2 a0_3 a0_4 a0_5 l0_6 l0_7).bind fun bt223 => ((entrepotref08_Well.f k bt223.1 bt223.2.1 bt223.2.2.1 bt223.2.2.2.1 bt223.2.2.2.2.1 bt223.2.2.2.2.2.1 bt223.2.2.2.2.2.2.1 bt223.2.2.2.2.2.2.2).bind fun t235 => (some t235))) else (some false)) else (some false)) else (some false)
theorem entrepotlaw11_well.mono : ∀ a0 a1 a2 a3 a4 a5 a6 a7 k, LeO (entrepotlaw11_well.f k a0 a1 a2 a3 a4 a5 a6 a7) (entrepotlaw11_well.f (k + 1) a0 a1 a2 a3 a4 a5 a6 a7) := by
 intro a0 a1 a2 a3 a4 a5 a6 a7 k
 unfold entrepotlaw11_well.f
 repeat' first
   | (with_reducible exact entrepotlaw11_its.mono _ _ _ _ _ _ _ _ _)
   | (with_reducible exact entrepotref08_Well.mono _ _ _ _ _ _ _ _ _)
   | (with_reducible exact LeO.refl _)
   | (with_reducible exact LeO.none _)
   | (with_reducible refine LeO.ite ?_ ?_)
   | (with_reducible refine LeO.bind ?_ (fun _ => ?_))
   | exact entrepotlaw11_its.mono _ _ _ _ _ _ _ _ _
   | exact entrepotref08_Well.mono _ _ _ _ _ _ _ _ _
   | exact LeO.none _
   | refine LeO.ite ?_ ?_
   | refine LeO.bind ?_ (fun _ => ?_)
set_option maxHeartbeats 8000000 in
set_option maxRecDepth 100000 in
theorem entrepotlaw11_well.calls (k : Nat) (a0_0 : ByteArray) (a0_1 : Int) (a0_2 : Int) (a0_3 : Int) (a0_4 : Int) (a0_5 : Int) (A0_6 : Option Addr) (c0_6 : Nat) (l0_6 : List (S32)) (A0_7 : Option Addr) (c0_7 : Nat) (l0_7 : List Int) (r : Bool) (w : World) (hr0_6 : Kd.C k32 w A0_6 l0_6.length l0_6) (hc0_6 : l0_6.length ≤ c0_6) (hr0_7 : Kd.C (Kd.int .i64) w A0_7 l0_7.length l0_7) (hc0_7 : l0_7.length ≤ c0_7) (h : entrepotlaw11_well.f k a0_0 a0_1 a0_2 a0_3 a0_4 a0_5 l0_6 l0_7 = some r) :
  Calls Try.prog 11 #[.agg #[.string a0_0, .int .i64 a0_1, .int .i64 a0_2, .int .i64 a0_3, .int .i64 a0_4, .int .i64 a0_5, .slice A0_6 l0_6.length c0_6, .slice A0_7 l0_7.length c0_7]] w fun e w' => e = .returned (.bool r) ∧ Below w.heap.size w w' := by
 have hu25 := Try.underlying25
 have HR0_6 := Aside0.mk hr0_6
 have HC0_6 := Aside0.mk hc0_6
 clear hr0_6 hc0_6
 have HR0_7 := Aside0.mk hr0_7
 have HC0_7 := Aside0.mk hc0_7
 clear hr0_7 hc0_7
 have HB := Aside0.mk (Below.refl w.heap.size w)
 have H : (if (l0_6.length : Int) ≤ 400 then (if (l0_7.length : Int) ≤ 1000 then (if (a0_0.size : Int) ≤ 100 then ((entrepotlaw11_its.f k a0_0 a0_1 a0_2 a0_3 a0_4 a0_5 l0_6 l0_7).bind fun bt223 => ((entrepotref08_Well.f k bt223.1 bt223.2.1 bt223.2.2.1 bt223.2.2.2.1 bt223.2.2.2.2.1 bt223.2.2.2.2.2.1 bt223.2.2.2.2.2.2.1 bt223.2.2.2.2.2.2.2).bind fun t235 => (some t235))) else (some false)) else (some false)) else (some false)) = some r := h
 clear h
 by_cases c2 : (l0_6.length : Int) ≤ 400
 ·rw [if_pos c2] at H
  have c2b0 : decide ((l0_6.length : Int) ≤ 400) = true := decide_eq_true c2
  have c2b1 : decide (l0_6.length ≤ 400) = true := decide_eq_true (by omega)
  clear c2
  by_cases c3 : (l0_7.length : Int) ≤ 1000
  ·rw [if_pos c3] at H
   have c3b0 : decide ((l0_7.length : Int) ≤ 1000) = true := decide_eq_true c3
   have c3b1 : decide (l0_7.length ≤ 1000) = true := decide_eq_true (by omega)
   clear c3
   by_cases c4 : (a0_0.size : Int) ≤ 100
   ·rw [if_pos c4] at H
    have c4b0 : decide ((a0_0.size : Int) ≤ 100) = true := decide_eq_true c4
    have c4b1 : decide (a0_0.size ≤ 100) = true := decide_eq_true (by omega)
    clear c4
    replace H := Option.bind_eq_some_iff.mp H
    obtain ⟨⟨t223, t224, t225, t226, t227, t228, t229, t232⟩, A50, H⟩ := H
    replace H : ((entrepotref08_Well.f k t223 t224 t225 t226 t227 t228 t229 t232).bind fun t235 => (some t235)) = some r := H
    have A5 := Aside0.mk A50
    clear A50
    replace H := Option.bind_eq_some_iff.mp H
    obtain ⟨t235, A60, H⟩ := H
    replace H : (some t235) = some r := H
    have A6 := Aside0.mk A60
    clear A60
    obtain rfl := Option.some.inj H
    go_enter Try.func11, Try.ntmps11
    go_wp2_with (first | ((with_reducible refine gate_dst (N := 1) rfl ?_); (try (refine gate_guard (by rfl) ?_; dsimp only)); refine box_event ?hg (N := 1) ?hd (cs := #[.string a0_0, .int .i64 a0_1, .int .i64 a0_2, .int .i64 a0_3, .int .i64 a0_4, .int .i64 a0_5, .slice A0_6 l0_6.length c0_6, .slice A0_7 l0_7.length c0_7]) (t := 25) ?hr ?_; (case hd => rfl); (case hg => rfl); (case hr => first | (go_simp; done) | (go_simp; rfl)); intro gb222 hg w7 hbox hb; have n0_ := Aside0.mk (below_step (by repeat (first | (with_reducible first | exact HB.out | apply below_alloc | apply pw_below_drewN | apply below_drew1) | exact HB.out)) hb); have n1_ := Aside0.mk (hbox); have n2_ := Aside0.mk ((by rw [hg]; exact (below_size (by repeat (first | (with_reducible first | exact HB.out | apply below_alloc | apply pw_below_drewN | apply below_drew1) | exact HB.out))) : w.heap.size ≤ gb222)); have n3_ := Aside0.mk ((by rw [hg]; exact (below_size (by repeat (first | (with_reducible first | exact HB.out | apply below_alloc | apply pw_below_drewN | apply below_drew1) | exact HB.out))) : w.heap.size ≤ gb222)); clear HB; have HB := n0_; have BK222 := n1_; have GW222 := n2_; have GE222 := n3_; clear n0_ n1_ n2_ n3_; clear hb hbox hg; obtain ⟨hcz8_0, hcz8_1, hcz8_2, hcz8_3, hcz8_4, hcz8_5, hcz8_6, hcz8_7, hfz8_0, hfz8_1, hfz8_2, hfz8_3, hfz8_4, hfz8_5, hfz8_6, hfz8_7⟩ := blk8_ BK222.out) | (go_at_call 20; (with_reducible refine (entrepotlaw11_its.calls k a0_0 a0_1 a0_2 a0_3 a0_4 a0_5 _ _ l0_6 (fun k_ => k_ < w.heap.size) _ _ l0_7 t223 t224 t225 t226 t227 t228 t229 t232 _ ?side1 ?side2 ?side3 A5.out).mono ?_); (case side1 => repeat (first | exact (Kd.C_below HR0_6.out HB.out) | (with_reducible refine Kd.C_alloc ?_ _) | (with_reducible refine Kd.C_drewN ?_ _) | (with_reducible refine Kd.C_drew ?_))); (case side2 => exact HC0_6.out); (case side3 => exact Kd.V_mk HC0_7.out (Kd.F_below (Kd.C_F (Kd.heap_int .i64) HR0_7.out) (by repeat (first | (with_reducible first | exact HB.out | apply below_alloc | apply pw_below_drewN | apply below_drew1 | refine below_set ?_ GE222.out) | exact HB.out)))); rintro e w9 ⟨v230, v233, rfl, ho0, ho1, hb⟩; have n0_ := Aside0.mk (Kd.R_lower (Kd.R_mono (ok' := fun k_ => True) ho0 (fun _ hk_ => trivial)) (below_size (by repeat (first | (with_reducible first | exact HB.out | apply below_alloc | apply pw_below_drewN | apply below_drew1 | refine below_set ?_ GE222.out) | exact HB.out)))); have n1_ := Aside0.mk (Kd.V_lower (Kd.V_mono (ok' := fun k_ => some k_ ≠ (v230 : Value).ownBlock ∧ k_ ≠ gb222) ho1 (fun k_ hk_ => ⟨hk_.2, Or.elim hk_.1 (fun hs_ => fun e_ => Nat.not_le.2 hs_ (by rw [e_]; exact GW222.out)) (fun hn_ => (Kd.freshB (g := gb222) (o := .cells #[.string a0_0, .int .i64 a0_1, .int .i64 a0_2, .int .i64 a0_3, .int .i64 a0_4, .int .i64 a0_5, .slice A0_6 l0_6.length c0_6, .slice A0_7 l0_7.length c0_7] 25 (0, 0)) (by (with_reducible repeat (first | refine blk_drewN ?_ _ | refine blk_drew ?_ | refine blk_alloc ?_ _)); exact BK222.out) k_ hn_))⟩)) (below_size (by repeat (first | (with_reducible first | exact HB.out | apply below_alloc | apply pw_below_drewN | apply below_drew1 | refine below_set ?_ GE222.out) | exact HB.out)))); have n2_ := Aside0.mk (blk_below (g := gb222) (o := .cells #[.string a0_0, .int .i64 a0_1, .int .i64 a0_2, .int .i64 a0_3, .int .i64 a0_4, .int .i64 a0_5, .slice A0_6 l0_6.length c0_6, .slice A0_7 l0_7.length c0_7] 25 (0, 0)) (by (with_reducible repeat (first | refine blk_drewN ?_ _ | refine blk_drew ?_ | refine blk_alloc ?_ _)); exact BK222.out) hb); have n3_ := Aside0.mk (below_step (by repeat (first | (with_reducible first | exact HB.out | apply below_alloc | apply pw_below_drewN | apply below_drew1 | refine below_set ?_ GE222.out) | exact HB.out)) hb); clear BK222; clear HB; have HO231 := n0_; have HO234 := n1_; have BK222 := n2_; have HB := n3_; clear n0_ n1_ n2_ n3_; (try clear hb); (try clear hb2); (try clear hk); (try clear hi); (try clear ho0); (try clear ho1); obtain ⟨Ao10, co10, eo10⟩ := Kd.R_slice HO231.out; subst eo10; obtain ⟨Ao11, co11, eo11⟩ := Kd.V_slice HO234.out; subst eo11) | (go_at_call 28; (with_reducible refine (entrepotref08_Well.calls k t223 t224 t225 t226 t227 t228 _ _ t229 _ _ t232 t235 _ ?side1 ?side2 ?side3 ?side4 A6.out).mono ?_); (case side1 => repeat (first | exact (Kd.R_reads' HO231.out).2.2 | (with_reducible refine Kd.C_alloc ?_ _) | (with_reducible refine Kd.C_drewN ?_ _) | (with_reducible refine Kd.C_drew ?_))); (case side2 => exact (Kd.R_reads' HO231.out).2.1); (case side3 => repeat (first | exact (Kd.V_reads' HO234.out).2.2 | (with_reducible refine Kd.C_alloc ?_ _) | (with_reducible refine Kd.C_drewN ?_ _) | (with_reducible refine Kd.C_drew ?_))); (case side4 => exact (Kd.V_reads' HO234.out).2.1); rintro e w12 ⟨rfl, hb⟩; have n0_ := Aside0.mk (Kd.R_below (by (with_reducible repeat (first | apply Kd.R_alloc | apply Kd.R_drewN | apply Kd.R_drew)); exact HO231.out) hb); have n1_ := Aside0.mk (Kd.V_below (by (with_reducible repeat (first | apply Kd.V_alloc | apply Kd.V_drewN | apply Kd.V_drew)); exact HO234.out) hb); have n2_ := Aside0.mk (blk_below (g := gb222) (o := .cells #[.string a0_0, .int .i64 a0_1, .int .i64 a0_2, .int .i64 a0_3, .int .i64 a0_4, .int .i64 a0_5, .slice A0_6 l0_6.length c0_6, .slice A0_7 l0_7.length c0_7] 25 (0, 0)) (by (with_reducible repeat (first | refine blk_drewN ?_ _ | refine blk_drew ?_ | refine blk_alloc ?_ _)); exact BK222.out) hb); have n3_ := Aside0.mk (below_step (by repeat (first | (with_reducible first | exact HB.out | apply below_alloc | apply pw_below_drewN | apply below_drew1 | refine below_set ?_ GE222.out) | exact HB.out)) hb); clear HO231; clear HO234; clear BK222; clear HB; have HO231 := n0_; have HO234 := n1_; have BK222 := n2_; have HB := n3_; clear n0_ n1_ n2_ n3_; (try clear hb); (try clear hb2); (try clear hk); (try clear hi)))
    go_ret
    exact ⟨by first | rfl | (simp [errW_none, errW_some] <;> rfl) | (simp [*, errW_none, errW_some] <;> rfl), by repeat (first | (with_reducible first | exact HB.out | apply below_alloc | apply pw_below_drewN | apply below_drew1 | refine below_set ?_ GE222.out) | exact HB.out)⟩
   ·rw [if_neg c4] at H
    have c4b0 : decide ((a0_0.size : Int) ≤ 100) = false := decide_eq_false c4
    have c4b1 : decide (a0_0.size ≤ 100) = false := decide_eq_false (by omega)
    clear c4
    obtain rfl := Option.some.inj H
    go_enter Try.func11, Try.ntmps11
    go_wp2_with (first | ((with_reducible refine gate_dst (N := 1) rfl ?_); (try (refine gate_guard (by rfl) ?_; dsimp only)); refine box_event ?hg (N := 1) ?hd (cs := #[.string a0_0, .int .i64 a0_1, .int .i64 a0_2, .int .i64 a0_3, .int .i64 a0_4, .int .i64 a0_5, .slice A0_6 l0_6.length c0_6, .slice A0_7 l0_7.length c0_7]) (t := 25) ?hr ?_; (case hd => rfl); (case hg => rfl); (case hr => first | (go_simp; done) | (go_simp; rfl)); intro gb222 hg w13 hbox hb; have n0_ := Aside0.mk (below_step (by repeat (first | (with_reducible first | exact HB.out | apply below_alloc | apply pw_below_drewN | apply below_drew1) | exact HB.out)) hb); have n1_ := Aside0.mk (hbox); have n2_ := Aside0.mk ((by rw [hg]; exact (below_size (by repeat (first | (with_reducible first | exact HB.out | apply below_alloc | apply pw_below_drewN | apply below_drew1) | exact HB.out))) : w.heap.size ≤ gb222)); have n3_ := Aside0.mk ((by rw [hg]; exact (below_size (by repeat (first | (with_reducible first | exact HB.out | apply below_alloc | apply pw_below_drewN | apply below_drew1) | exact HB.out))) : w.heap.size ≤ gb222)); clear HB; have HB := n0_; have BK222 := n1_; have GW222 := n2_; have GE222 := n3_; clear n0_ n1_ n2_ n3_; clear hb hbox hg; obtain ⟨hcz14_0, hcz14_1, hcz14_2, hcz14_3, hcz14_4, hcz14_5, hcz14_6, hcz14_7, hfz14_0, hfz14_1, hfz14_2, hfz14_3, hfz14_4, hfz14_5, hfz14_6, hfz14_7⟩ := blk8_ BK222.out))
    go_ret
    exact ⟨by first | rfl | (simp [errW_none, errW_some] <;> rfl) | (simp [*, errW_none, errW_some] <;> rfl), by repeat (first | (with_reducible first | exact HB.out | apply below_alloc | apply pw_below_drewN | apply below_drew1 | refine below_set ?_ GE222.out) | exact HB.out)⟩
  ·rw [if_neg c3] at H
   have c3b0 : decide ((l0_7.length : Int) ≤ 1000) = false := decide_eq_false c3
   have c3b1 : decide (l0_7.length ≤ 1000) = false := decide_eq_false (by omega)
   clear c3
   obtain rfl := Option.some.inj H
   go_enter Try.func11, Try.ntmps11
   go_wp2_with (first | ((with_reducible refine gate_dst (N := 1) rfl ?_); (try (refine gate_guard (by rfl) ?_; dsimp only)); refine box_event ?hg (N := 1) ?hd (cs := #[.string a0_0, .int .i64 a0_1, .int .i64 a0_2, .int .i64 a0_3, .int .i64 a0_4, .int .i64 a0_5, .slice A0_6 l0_6.length c0_6, .slice A0_7 l0_7.length c0_7]) (t := 25) ?hr ?_; (case hd => rfl); (case hg => rfl); (case hr => first | (go_simp; done) | (go_simp; rfl)); intro gb222 hg w15 hbox hb; have n0_ := Aside0.mk (below_step (by repeat (first | (with_reducible first | exact HB.out | apply below_alloc | apply pw_below_drewN | apply below_drew1) | exact HB.out)) hb); have n1_ := Aside0.mk (hbox); have n2_ := Aside0.mk ((by rw [hg]; exact (below_size (by repeat (first | (with_reducible first | exact HB.out | apply below_alloc | apply pw_below_drewN | apply below_drew1) | exact HB.out))) : w.heap.size ≤ gb222)); have n3_ := Aside0.mk ((by rw [hg]; exact (below_size (by repeat (first | (with_reducible first | exact HB.out | apply below_alloc | apply pw_below_drewN | apply below_drew1) | exact HB.out))) : w.heap.size ≤ gb222)); clear HB; have HB := n0_; have BK222 := n1_; have GW222 := n2_; have GE222 := n3_; clear n0_ n1_ n2_ n3_; clear hb hbox hg; obtain ⟨hcz16_0, hcz16_1, hcz16_2, hcz16_3, hcz16_4, hcz16_5, hcz16_6, hcz16_7, hfz16_0, hfz16_1, hfz16_2, hfz16_3, hfz16_4, hfz16_5, hfz16_6, hfz16_7⟩ := blk8_ BK222.out))
   go_ret
   exact ⟨by first | rfl | (simp [errW_none, errW_some] <;> rfl) | (simp [*, errW_none, errW_some] <;> rfl), by repeat (first | (with_reducible first | exact HB.out | apply below_alloc | apply pw_below_drewN | apply below_drew1 | refine below_set ?_ GE222.out) | exact HB.out)⟩
 ·rw [if_neg c2] at H
  have c2b0 : decide ((l0_6.length : Int) ≤ 400) = false := decide_eq_false c2
  have c2b1 : decide (l0_6.length ≤ 400) = false := decide_eq_false (by omega)
  clear c2
  obtain rfl := Option.some.inj H
  go_enter Try.func11, Try.ntmps11
  go_wp2_with (first | ((with_reducible refine gate_dst (N := 1) rfl ?_); (try (refine gate_guard (by rfl) ?_; dsimp only)); refine box_event ?hg (N := 1) ?hd (cs := #[.string a0_0, .int .i64 a0_1, .int .i64 a0_2, .int .i64 a0_3, .int .i64 a0_4, .int .i64 a0_5, .slice A0_6 l0_6.length c0_6, .slice A0_7 l0_7.length c0_7]) (t := 25) ?hr ?_; (case hd => rfl); (case hg => rfl); (case hr => first | (go_simp; done) | (go_simp; rfl)); intro gb222 hg w17 hbox hb; have n0_ := Aside0.mk (below_step (by repeat (first | (with_reducible first | exact HB.out | apply below_alloc | apply pw_below_drewN | apply below_drew1) | exact HB.out)) hb); have n1_ := Aside0.mk (hbox); have n2_ := Aside0.mk ((by rw [hg]; exact (below_size (by repeat (first | (with_reducible first | exact HB.out | apply below_alloc | apply pw_below_drewN | apply below_drew1) | exact HB.out))) : w.heap.size ≤ gb222)); have n3_ := Aside0.mk ((by rw [hg]; exact (below_size (by repeat (first | (with_reducible first | exact HB.out | apply below_alloc | apply pw_below_drewN | apply below_drew1) | exact HB.out))) : w.heap.size ≤ gb222)); clear HB; have HB := n0_; have BK222 := n1_; have GW222 := n2_; have GE222 := n3_; clear n0_ n1_ n2_ n3_; clear hb hbox hg; obtain ⟨hcz18_0, hcz18_1, hcz18_2, hcz18_3, hcz18_4, hcz18_5, hcz18_6, hcz18_7, hfz18_0, hfz18_1, hfz18_2, hfz18_3, hfz18_4, hfz18_5, hfz18_6, hfz18_7⟩ := blk8_ BK222.out))
  go_ret
  exact ⟨by first | rfl | (simp [errW_none, errW_some] <;> rfl) | (simp [*, errW_none, errW_some] <;> rfl), by repeat (first | (with_reducible first | exact HB.out | apply below_alloc | apply pw_below_drewN | apply below_drew1 | refine below_set ?_ GE222.out) | exact HB.out)⟩

end Go.Proofs.Ytlncbckpcmojpaa.P
namespace Go.Proofs.Ytlncbckpcmojpaa
open Go.RowKit Go.Proofs.YtlncbckpcmojpaaW.PrintWords Go.Proofs.YtlncbckpcmojpaaW.PrintLast P
set_option linter.unusedVariables false
namespace Well11
abbrev N1 := S32
abbrev N2 := S77
abbrev rdN (l : List N1) (i : Int) : N1 := rd_T32 l i
def conv (d : N1) : N2 := ⟨d.f0, d.f1, d.f2, d.f3, d.f4, d.f5, d.f6⟩
theorem rdN_at {l : List N1} {i : Nat} (h : i < l.length) : rdN l (i : Int) = l[i] := by
  unfold rdN rd_T32
  rw [Int.toNat_natCast, List.getD_eq_getElem?_getD, List.getElem?_eq_getElem h]; rfl
theorem rdN2_at {l : List N2} {i : Nat} (h : i < l.length) : Ref08.rdN l (i : Int) = l[i] := by
  unfold Ref08.rdN rd_T77
  rw [Int.toNat_natCast, List.getD_eq_getElem?_getD, List.getElem?_eq_getElem h]; rfl
theorem rdN_conv {l : List N1} {i : Nat} (h : i < l.length) : Ref08.rdN (l.map conv) (i : Int) = conv (rdN l (i : Int)) := by
  rw [rdN2_at (by rw [List.length_map]; exact h), rdN_at h, List.getElem_map]
theorem rd1_at {rs : List (List Int)} {i : Nat} (h : i < rs.length) : rd_L1 rs (i : Int) = rs[i] := by
  unfold rd_L1
  rw [Int.toNat_natCast, List.getD_eq_getElem?_getD, List.getElem?_eq_getElem h]; rfl
theorem w64s {i : Nat} (h : i ≤ 4611686018427387904) : wrap64 ((i : Int) + 1) = ((i + 1 : Nat) : Int) := by unfold wrap64; omega
theorem its_from (nm : ByteArray) (kd mt sc cp fl : Int) {ns : List N1} (mx : List Int) (hn : ns.length ≤ 400) (d : Nat) : ∀ i : Nat, i + d = ns.length →
    Ev (fun k => entrepotlaw11_its.l0 k (i : Int) nm kd mt sc cp fl ns mx nm kd mt sc cp fl ((ns.take i).map conv) mx) (nm, kd, mt, sc, cp, fl, ns.map conv, mx) := by
  induction d with
  | zero =>
    intro i hi
    refine Ev.step (fun _ => entrepotlaw11_its.l0.eq_2 ..) (Ev.neg (by omega) ?_)
    rw [List.take_of_length_le (by omega)]; exact Ev.now _
  | succ d ih =>
    intro i hi
    have hlt : i < ns.length := by omega
    refine Ev.step (fun _ => entrepotlaw11_its.l0.eq_2 ..) (Ev.pos (by omega) (Ev.pos (by omega) (Ev.pos (by omega) (Ev.pos (by simp; omega) ?_))))
    rw [show rd_T32 ns (i : Int) = ns[i] from rdN_at hlt, w64s (by omega)]
    have := ih (i + 1) (by omega)
    rwa [List.take_succ_eq_append_getElem hlt, List.map_append] at this
theorem its_ev (nm : ByteArray) (kd mt sc cp fl : Int) {ns : List N1} (mx : List Int) (hn : ns.length ≤ 400) : Ev (fun k => entrepotlaw11_its.f k nm kd mt sc cp fl ns mx) (nm, kd, mt, sc, cp, fl, ns.map conv, mx) := by
  have := its_from nm kd mt sc cp fl mx hn ns.length 0 (by omega)
  simpa [entrepotlaw11_its.f] using this
/-- Is it well-formed, and not too much to look at? -/
def wellF (nm : ByteArray) (kd mt sc cp fl : Int) (ns : List N1) (mx : List Int) : Bool :=
  decide (ns.length ≤ 400) && (decide (mx.length ≤ 1000) && (decide (nm.size ≤ 100) && Ref08.wellB nm kd mt sc cp fl (ns.map conv) mx))
theorem well_ev (nm : ByteArray) (kd mt sc cp fl : Int) (ns : List N1) (mx : List Int) : Ev (fun k => entrepotlaw11_well.f k nm kd mt sc cp fl ns mx) (wellF nm kd mt sc cp fl ns mx) := by
  unfold entrepotlaw11_well.f wellF
  by_cases h1 : ns.length ≤ 400
  · refine Ev.pos (by omega) ?_
    by_cases h2 : mx.length ≤ 1000
    · refine Ev.pos (by omega) ?_
      by_cases h3 : nm.size ≤ 100
      · refine Ev.pos (by omega) (Ev.bind (its_ev nm kd mt sc cp fl mx h1) (Ev.bind (Ref08.well_ev nm kd mt sc cp fl (ns.map conv) mx (by omega)) (Ev.this ?_)))
        rw [decide_eq_true h1, decide_eq_true h2, decide_eq_true h3]; rfl
      · exact Ev.neg (by omega) (Ev.this (by rw [decide_eq_false h3]; simp))
    · exact Ev.neg (by omega) (Ev.this (by rw [decide_eq_false h2]; simp))
  · exact Ev.neg (by omega) (Ev.this (by rw [decide_eq_false h1]; simp))
/-- What a well-formed instance is. -/
structure Good (kd mt sc cp fl : Int) (ns : List N1) (mx : List Int) : Prop where
  cnt : 1 ≤ ns.length ∧ ns.length ≤ 400
  kind : 1 ≤ kd ∧ kd ≤ 4
  met : 0 ≤ mt ∧ mt ≤ 6
  scale : 0 ≤ sc ∧ sc ≤ 6 ∧ (mt = 0 → sc = 0)
  cap : (kd = 1 → cp = 0) ∧ (kd ≠ 1 → 1 ≤ cp ∧ cp ≤ 100000000)
  fleet : (kd = 1 → fl = 0) ∧ (kd ≠ 1 → 0 ≤ fl ∧ fl ≤ 400)
  mxl : (mt = 0 → mx.length = ns.length * ns.length) ∧ (mt ≠ 0 → mx.length = 0)
  cell : mt = 0 → ∀ i : Nat, i < ns.length * ns.length → 0 ≤ rd mx (i : Int) ∧ rd mx (i : Int) ≤ 100000000 ∧ (i % (ns.length + 1) = 0 → rd mx (i : Int) = 0)
  coord : ∀ i : Nat, i < ns.length → (-100000000 ≤ (rdN ns (i : Int)).f0 ∧ (rdN ns (i : Int)).f0 ≤ 100000000) ∧ (-100000000 ≤ (rdN ns (i : Int)).f1 ∧ (rdN ns (i : Int)).f1 ≤ 100000000) ∧ (mt = 0 → (rdN ns (i : Int)).f0 = 0 ∧ (rdN ns (i : Int)).f1 = 0)
  demand : ∀ i : Nat, i < ns.length → (-100000000 ≤ (rdN ns (i : Int)).f2 ∧ (rdN ns (i : Int)).f2 ≤ 100000000) ∧ (kd = 1 ∨ i = 0 → (rdN ns (i : Int)).f2 = 0) ∧ (kd ≠ 4 → 0 ≤ (rdN ns (i : Int)).f2)
  window : ∀ i : Nat, i < ns.length → (0 ≤ (rdN ns (i : Int)).f3 ∧ (rdN ns (i : Int)).f3 ≤ (rdN ns (i : Int)).f4 ∧ (rdN ns (i : Int)).f4 ≤ 100000000) ∧ (kd = 1 ∨ kd = 2 → (rdN ns (i : Int)).f3 = 0 ∧ (rdN ns (i : Int)).f4 = 0)
  service : ∀ i : Nat, i < ns.length → (0 ≤ (rdN ns (i : Int)).f5 ∧ (rdN ns (i : Int)).f5 ≤ 100000000) ∧ (kd = 1 ∨ kd = 2 → (rdN ns (i : Int)).f5 = 0)
  mate : ∀ i : Nat, i < ns.length → (¬ (kd = 4 ∧ i ≠ 0) → (rdN ns (i : Int)).f6 = 0) ∧ (kd = 4 ∧ i ≠ 0 → 1 ≤ (rdN ns (i : Int)).f6 ∧ (rdN ns (i : Int)).f6 < (ns.length : Int) ∧ (rdN ns (i : Int)).f6 ≠ (i : Int) ∧ (rdN ns (rdN ns (i : Int)).f6).f6 = (i : Int) ∧ (rdN ns (i : Int)).f2 ≠ 0 ∧ (rdN ns (rdN ns (i : Int)).f6).f2 = -(rdN ns (i : Int)).f2)
theorem opt_true {b : Bool} {f : Ref08.Fault} (h : Ref08.opt b f = []) : b = true := by cases b with | true => rfl | false => simp [Ref08.opt] at h
theorem good_of {nm : ByteArray} {kd mt sc cp fl : Int} {ns : List N1} {mx : List Int} (h : wellF nm kd mt sc cp fl ns mx = true) : Good kd mt sc cp fl ns mx := by
  unfold wellF Ref08.wellB at h
  simp only [Bool.and_eq_true, decide_eq_true_eq] at h
  obtain ⟨hn, hm, hs, h⟩ := h
  unfold Ref08.faultsOf at h
  split at h
  · simp at h
  · rename_i hc
    rw [List.length_map] at hc h
    obtain ⟨h1, h2⟩ := List.append_eq_nil_iff.1 h
    obtain ⟨h3, h4⟩ := List.append_eq_nil_iff.1 h1
    unfold Ref08.headOf at h3
    obtain ⟨h3, b6⟩ := List.append_eq_nil_iff.1 h3
    obtain ⟨h3, b5⟩ := List.append_eq_nil_iff.1 h3
    obtain ⟨h3, b4⟩ := List.append_eq_nil_iff.1 h3
    obtain ⟨h3, b3⟩ := List.append_eq_nil_iff.1 h3
    obtain ⟨h3, b2⟩ := List.append_eq_nil_iff.1 h3
    have b2 := opt_true b2
    have b3 := opt_true b3
    have b4 := opt_true b4
    have b5 := opt_true b5
    have b6 := opt_true b6
    have b7 := opt_true h4
    have hnode : ∀ i : Nat, i < ns.length → Ref08.coordB mt (conv (rdN ns (i : Int))) = true ∧ Ref08.demandB kd i (conv (rdN ns (i : Int))) = true ∧ Ref08.windowB kd (conv (rdN ns (i : Int))) = true ∧ Ref08.serviceB kd (conv (rdN ns (i : Int))) = true ∧ Ref08.mateB kd (ns.map conv) i = true := fun i hi => by
      have h5 := List.flatMap_eq_nil_iff.1 h2 i (List.mem_range.2 hi)
      unfold Ref08.nodeOf at h5
      rw [rdN_conv hi] at h5
      obtain ⟨h5, c5⟩ := List.append_eq_nil_iff.1 h5
      obtain ⟨h5, c4⟩ := List.append_eq_nil_iff.1 h5
      obtain ⟨h5, c3⟩ := List.append_eq_nil_iff.1 h5
      obtain ⟨c1, c2⟩ := List.append_eq_nil_iff.1 h5
      exact ⟨opt_true c1, opt_true c2, opt_true c3, opt_true c4, opt_true c5⟩
    clear h h1 h2 h3 h4
    refine ⟨by omega, of_decide_eq_true b2, of_decide_eq_true b3, of_decide_eq_true b4, ?_, ?_, ?_, ?_, ?_, ?_, ?_, ?_, ?_⟩
    · unfold Ref08.capB at b5
      split at b5
      · exact ⟨fun _ => of_decide_eq_true b5, fun e => absurd ‹_› e⟩
      · exact ⟨fun e => absurd e ‹_›, fun _ => of_decide_eq_true b5⟩
    · unfold Ref08.fleetB at b6
      split at b6
      · exact ⟨fun _ => of_decide_eq_true b6, fun e => absurd ‹_› e⟩
      · exact ⟨fun e => absurd e ‹_›, fun _ => of_decide_eq_true b6⟩
    · unfold Ref08.matrixB at b7
      split at b7
      · simp only [Bool.and_eq_true, decide_eq_true_eq] at b7
        exact ⟨fun _ => b7.1, fun e => absurd ‹_› e⟩
      · exact ⟨fun e => absurd e ‹_›, fun _ => of_decide_eq_true b7⟩
    · intro h0 i hi
      unfold Ref08.matrixB at b7
      rw [if_pos h0] at b7
      simp only [Bool.and_eq_true, decide_eq_true_eq, List.all_eq_true] at b7
      have := b7.2 i (List.mem_range.2 hi)
      unfold Ref08.cellB Ref08.numB at this
      simp only [Bool.and_eq_true, Bool.or_eq_true, decide_eq_true_eq] at this
      exact ⟨this.1.1, this.1.2, fun e => this.2.elim (fun a => absurd e a) id⟩
    · intro i hi
      have c := (hnode i hi).1
      unfold Ref08.coordB Ref08.sigB conv at c
      simp only [Bool.and_eq_true, Bool.or_eq_true, decide_eq_true_eq] at c
      exact ⟨c.1.1, c.1.2, fun e => c.2.elim (fun a => absurd e a) id⟩
    · intro i hi
      have c := (hnode i hi).2.1
      unfold Ref08.demandB Ref08.numB Ref08.sigB conv at c
      split at c
      · have := of_decide_eq_true c
        exact ⟨by simp only at this; omega, fun _ => this, fun _ => by simp only at this; omega⟩
      · rename_i hh
        simp only [Bool.and_eq_true, Bool.or_eq_true, decide_eq_true_eq] at c
        exact ⟨by omega, fun e => absurd e hh, fun e => by omega⟩
    · intro i hi
      have c := (hnode i hi).2.2.1
      unfold Ref08.windowB Ref08.numB conv at c
      split at c
      · have := of_decide_eq_true c
        exact ⟨by simp only at this; omega, fun _ => this⟩
      · rename_i hh
        simp only [Bool.and_eq_true, decide_eq_true_eq] at c
        exact ⟨by omega, fun e => absurd e hh⟩
    · intro i hi
      have c := (hnode i hi).2.2.2.1
      unfold Ref08.serviceB Ref08.numB conv at c
      split at c
      · have := of_decide_eq_true c
        exact ⟨by simp only at this; omega, fun _ => this⟩
      · rename_i hh
        have := of_decide_eq_true c
        exact ⟨this, fun e => absurd e hh⟩
    · intro i hi
      have c := (hnode i hi).2.2.2.2
      have dm := (hnode i hi).2.1
      unfold Ref08.mateB at c
      rw [rdN_conv hi, List.length_map] at c
      split at c
      · rename_i hh
        refine ⟨fun e => absurd hh e, fun _ => ?_⟩
        have c := of_decide_eq_true c
        obtain ⟨c1, c2, c3, c4, c5, c6⟩ := c
        have e6 : (conv (rdN ns (i : Int))).f6 = (rdN ns (i : Int)).f6 := rfl
        have e2 : (conv (rdN ns (i : Int))).f2 = (rdN ns (i : Int)).f2 := rfl
        rw [e6] at c1 c2 c3 c4 c6
        rw [e2] at c5 c6
        obtain ⟨j, hj⟩ : ∃ j : Nat, (rdN ns (i : Int)).f6 = (j : Int) := ⟨(rdN ns (i : Int)).f6.toNat, by omega⟩
        rw [hj] at c1 c2 c3 c4 c6 ⊢
        rw [rdN_conv (by omega)] at c4 c6
        refine ⟨c1, c2, c3, c4, c5, ?_⟩
        unfold Ref08.demandB Ref08.numB Ref08.sigB conv at dm
        have e7 : (conv (rdN ns (j : Int))).f2 = (rdN ns (j : Int)).f2 := rfl
        rw [e7] at c6
        rw [c6]
        have hb : -100000000 ≤ (rdN ns (i : Int)).f2 ∧ (rdN ns (i : Int)).f2 ≤ 100000000 := by
          split at dm
          · have := of_decide_eq_true dm; simp only at this; omega
          · simp only [Bool.and_eq_true, Bool.or_eq_true, decide_eq_true_eq] at dm; omega
        unfold wrap64
        omega
      · rename_i hh
        exact ⟨fun _ => of_decide_eq_true c, fun e => absurd e hh⟩
/-- How many stops. -/
def many (rs : List (List Int)) : Nat := (rs.map List.length).foldr (· + ·) 0
theorem many_take {rs : List (List Int)} {i : Nat} (h : i < rs.length) : many (rs.take (i + 1)) = many (rs.take i) + rs[i].length := by
  unfold many
  rw [List.take_succ_eq_append_getElem h, List.map_append, List.foldr_append]
  generalize (rs.take i).map List.length = l
  induction l with
  | nil => simp
  | cons a l ih => simp only [List.map_cons, List.map_nil, List.foldr_cons, List.foldr_nil] at ih ⊢; omega
theorem long_from {rs : List (List Int)} (d : Nat) : ∀ i : Nat, i + d = min rs.length 220 → (∀ j (h : j < rs.length), j < i → rs[j].length ≤ 300) → many (rs.take i) ≤ 300 * i → ∃ b, Ev (fun k => entrepotlaw11_long.l0 k (many (rs.take i) : Int) (i : Int) rs) b ∧ (b = false → rs.length ≤ 200 ∧ (∀ r ∈ rs, r.length ≤ 300) ∧ many rs ≤ 300) := by
  induction d with
  | zero =>
    intro i hi hs hm
    have fin : ∃ b, Ev (fun k => entrepotlaw11_long.j1 k (many (rs.take i) : Int) (i : Int) false rs) b ∧ (b = false → rs.length ≤ 200 ∧ (∀ r ∈ rs, r.length ≤ 300) ∧ many rs ≤ 300) := by
      by_cases h2 : rs.length > 200
      · exact ⟨true, Ev.step (fun _ => entrepotlaw11_long.j1.eq_2 ..) (Ev.neg (by simp) (Ev.pos (by omega) (Ev.now _))), fun e => by cases e⟩
      · refine ⟨_, Ev.step (fun _ => entrepotlaw11_long.j1.eq_2 ..) (Ev.neg (by simp) (Ev.neg (by omega) (Ev.now _))), fun e => ?_⟩
        have e := of_decide_eq_false e
        have hi : i = rs.length := by omega
        subst hi
        rw [List.take_length] at e
        refine ⟨by omega, fun r hr => ?_, by omega⟩
        obtain ⟨j, hj, rfl⟩ := List.getElem_of_mem hr
        exact hs j hj hj
    obtain ⟨b, hb, hb2⟩ := fin
    refine ⟨b, Ev.step (fun _ => entrepotlaw11_long.l0.eq_2 ..) ?_, hb2⟩
    by_cases h1 : i < rs.length
    · refine Ev.pos (by omega) ?_
      rw [decide_eq_false (by omega)]; exact hb
    · exact Ev.neg (by omega) hb
  | succ d ih =>
    intro i hi hs hm
    have hlt : i < rs.length := by omega
    by_cases h1 : rs[i].length > 300
    · refine ⟨true, Ev.step (fun _ => entrepotlaw11_long.l0.eq_2 ..) (Ev.pos (by omega) (Ev.step (fun _ => entrepotlaw11_long.j1.eq_2 ..) (Ev.pos (decide_eq_true (by omega)) (Ev.pos (by omega) (Ev.pos (by omega) (Ev.pos ?_ (Ev.now _))))))), fun e => by cases e⟩
      rw [rd1_at hlt]; omega
    · have hmt := many_take hlt
      obtain ⟨b, hb, hb2⟩ := ih (i + 1) (by omega) (fun j h hj => by
        by_cases e : j = i
        · subst e; omega
        · exact hs j h (by omega)) (by omega)
      refine ⟨b, Ev.step (fun _ => entrepotlaw11_long.l0.eq_2 ..) (Ev.pos (by omega) (Ev.step (fun _ => entrepotlaw11_long.j1.eq_2 ..) (Ev.pos (decide_eq_true (by omega)) (Ev.pos (by omega) (Ev.pos (by omega) (Ev.neg ?_ ?_)))))), hb2⟩
      · rw [rd1_at hlt]; omega
      · rw [rd1_at hlt, w64s (by omega), show wrap64 ((many (rs.take i) : Int) + (rs[i].length : Int)) = ((many (rs.take (i + 1)) : Nat) : Int) by rw [hmt]; unfold wrap64; omega]
        exact hb
theorem long_tells (rs : List (List Int)) : ∃ b, Ev (fun k => entrepotlaw11_long.f k rs) b ∧ (b = false → rs.length ≤ 200 ∧ (∀ r ∈ rs, r.length ≤ 300) ∧ many rs ≤ 300) := by
  have := long_from (rs := rs) (min rs.length 220) 0 (by omega) (fun j _ h => by omega) (by simp [many])
  simpa [entrepotlaw11_long.f, many] using this
end Well11
end Go.Proofs.Ytlncbckpcmojpaa
