/- Written by a program of this session, after the kit's print: Lean functions for Go functions, and the proof that the machine comes to their answers. -/
import Derived.Test.YtlncbckpcmojpaaPx0
import Derived.Test.YtlncbckpcmojpaaMka
set_option linter.unusedSimpArgs false
set_option linter.unusedVariables false
namespace Go.Proofs.Ytlncbckpcmojpaa.P
open Go.RowKit Go.Proofs.YtlncbckpcmojpaaW.PrintWords Go.Proofs.YtlncbckpcmojpaaW.PrintLast Go.Proofs.YtlncbckpcmojpaaW.PrintMore
attribute [local go_sem] max2_int min2_int max_two min_two max_three min_three max_four min_four

/-! ### entrepotref09_Norm: function 39 -/
def entrepotref09_Norm.l0 : Nat → Int → List (List Int) → List (List Int) → Option ((List (List Int)))
 | 0, _, _, _ => none
 | k + 1, x4, x378000, x380000 => if x4 < (x378000.length : Int) then (if 0 ≤ x4 then (if ((rd_L1 x378000 x4).length : Int) > 0 then ((some (([] : List Int) : List Int)).bind fun y381 => (if y381.length + (rd_L1 x378000 x4).length < 17592186044416 then (if x380000.length < 5864062014805 then (entrepotref09_Norm.l0 k (wrap64 (x4 + 1)) x378000 (x380000 ++ [(y381 ++ (rd_L1 x378000 x4))])) else (none)) else (none))) else (entrepotref09_Norm.l0 k (wrap64 (x4 + 1)) x378000 x380000)) else (none)) else (some x380000)
def entrepotref09_Norm.f (k : Nat) (l0_0 : List (List Int)) : Option ((List (List Int))) := entrepotref09_Norm.l0 k 0 l0_0 ([] : List (List Int))
theorem entrepotref09_Norm.mono_l : ∀ k, (∀ y0 y1 y2, LeO (entrepotref09_Norm.l0 k y0 y1 y2) (entrepotref09_Norm.l0 (k + 1) y0 y1 y2))
 | 0 => fun _ _ _ r h => by simp [entrepotref09_Norm.l0] at h
 | k + 1 => by
  have ih0 := entrepotref09_Norm.mono_l k
  ·intro y0 y1 y2
   unfold entrepotref09_Norm.l0
   repeat' first
   | (with_reducible exact ih0 _ _ _)
   | (with_reducible exact LeO.refl _)
   | (with_reducible exact LeO.none _)
   | (with_reducible refine LeO.ite ?_ ?_)
   | (with_reducible refine LeO.bind ?_ (fun _ => ?_))
   | exact ih0 _ _ _
   | exact LeO.none _
   | refine LeO.ite ?_ ?_
   | refine LeO.bind ?_ (fun _ => ?_)
theorem entrepotref09_Norm.mono : ∀ a0 k, LeO (entrepotref09_Norm.f k a0) (entrepotref09_Norm.f (k + 1) a0) := by
 intro a0 k
 have ih0 := entrepotref09_Norm.mono_l k
 unfold entrepotref09_Norm.f
 repeat' first
   | (with_reducible exact ih0 _ _ _)
   | (with_reducible exact LeO.refl _)
   | (with_reducible exact LeO.none _)
   | (with_reducible refine LeO.ite ?_ ?_)
   | (with_reducible refine LeO.bind ?_ (fun _ => ?_))
   | exact ih0 _ _ _
   | exact LeO.none _
   | refine LeO.ite ?_ ?_
   | refine LeO.bind ?_ (fun _ => ?_)
def entrepotref09_Norm.T6 : Bool × List (List Nat × List Nat) := (true, [([], []), ([0], [0]), ([], []), ([], []), ([3], [3]), ([], []), ([4, 5], [4, 5]), ([6], [6]), ([2, 7], [2, 7]), ([8], [8]), ([1, 9, 8], [1, 9]), ([0, 1, 2, 3, 4, 5, 6, 7, 8, 9, 10], []), ([11, 10, 10, 0, 1, 2, 3, 4, 5, 6, 7, 8, 9, 10], [10, 11])])
def entrepotref09_Norm.B6 : List Nat := [0, 1, 0, 0, 8, 0, 56, 120, 252, 508, 1023, 2047, 4095]
theorem entrepotref09_Norm.tab6 : rtab .any (opsOf Try.f39 6) = entrepotref09_Norm.T6 := by kernel_rfl
theorem entrepotref09_Norm.bits6 : waitsOk entrepotref09_Norm.T6.2 entrepotref09_Norm.B6 = true := by kernel_rfl
set_option maxHeartbeats 8000000 in
set_option maxRecDepth 100000 in
theorem entrepotref09_Norm.calls (k : Nat) (A0_0 : Option Addr) (c0_0 : Nat) (l0_0 : List (List Int)) (r : List (List Int)) (w : World) (hr0_0 : Kd.C (Kd.slice 3 (Kd.int .i64)) w A0_0 l0_0.length l0_0) (hc0_0 : l0_0.length ≤ c0_0) (h : entrepotref09_Norm.f k l0_0 = some r) :
  Calls Try.prog 39 #[.agg #[.slice A0_0 l0_0.length c0_0]] w fun e w' => ∃ v0_ : Value, e = .returned (.agg #[v0_]) ∧ Kd.S (Kd.slice 3 (Kd.int .i64)) 23 w' w.heap.size (fun _ => True) v0_ r ∧ Below w.heap.size w w' := by
 have hu48 := Try.underlying48
 have HR0_0 := Aside0.mk hr0_0
 have HC0_0 := Aside0.mk hc0_0
 clear hr0_0 hc0_0
 have HB := Aside0.mk (Below.refl w.heap.size w)
 have H : (entrepotref09_Norm.l0 k 0 l0_0 ([] : List (List Int))) = some r := h
 clear h
 have H' := Aside0.mk H
 clear H
 go_enter Try.func39, Try.ntmps39
 go_wp2_with (first | ((with_reducible refine gate_dst (N := 1) rfl ?_); refine box_event ?hg (N := 1) ?hd (cs := #[.slice A0_0 l0_0.length c0_0]) (t := 48) ?hr ?_; (case hd => rfl); (case hg => rfl); (case hr => first | (go_simp; done) | (go_simp; rfl)); intro gb377 hg w2 hbox hb; have n0_ := Aside0.mk (below_step (by repeat (first | (with_reducible first | exact HB.out | apply below_alloc | apply pw_below_drewN | apply below_drew1) | exact HB.out)) hb); have n1_ := Aside0.mk (hbox); have n2_ := Aside0.mk ((by rw [hg]; exact (below_size (by repeat (first | (with_reducible first | exact HB.out | apply below_alloc | apply pw_below_drewN | apply below_drew1) | exact HB.out))) : w.heap.size ≤ gb377)); have n3_ := Aside0.mk ((by rw [hg]; exact (below_size (by repeat (first | (with_reducible first | exact HB.out | apply below_alloc | apply pw_below_drewN | apply below_drew1) | exact HB.out))) : w.heap.size ≤ gb377)); clear HB; have HB := n0_; have BK377 := n1_; have GW377 := n2_; have GE377 := n3_; clear n0_ n1_ n2_ n3_; clear hb hbox hg) | ((with_reducible refine gate_dst (N := 2) rfl ?_); refine box_event ?hg (N := 2) ?hd (cs := #[.slice none 0 0]) (t := 48) ?hr ?_; (case hd => rfl); (case hg => rfl); (case hr => first | (go_simp; done) | (go_simp; rfl)); intro gb378 hg w3 hbox hb; have n0_ := Aside0.mk (blk_below (g := gb377) (o := .cells #[.slice A0_0 l0_0.length c0_0] 48 (0, 0)) (by (with_reducible repeat (first | refine blk_drewN ?_ _ | refine blk_drew ?_ | refine blk_alloc ?_ _)); exact BK377.out) hb); have n1_ := Aside0.mk (below_step (by repeat (first | (with_reducible first | exact HB.out | apply below_alloc | apply pw_below_drewN | apply below_drew1 | refine below_set ?_ GE377.out) | exact HB.out)) hb); have n2_ := Aside0.mk (hbox); have n3_ := Aside0.mk ((by rw [hg]; exact (below_size (by repeat (first | (with_reducible first | exact HB.out | apply below_alloc | apply pw_below_drewN | apply below_drew1 | refine below_set ?_ GE377.out) | exact HB.out))) : w.heap.size ≤ gb378)); have n4_ := Aside0.mk ((by rw [hg]; exact (below_size (by repeat (first | (with_reducible first | exact HB.out | apply below_alloc | apply pw_below_drewN | apply below_drew1 | refine below_set ?_ GE377.out) | exact HB.out))) : w.heap.size ≤ gb378)); have n5_ := Aside0.mk ((by rw [hg]; exact Nat.ne_of_lt (blk_lt (g := gb377) (o := .cells #[.slice A0_0 l0_0.length c0_0] 48 (0, 0)) (by (with_reducible repeat (first | refine blk_drewN ?_ _ | refine blk_drew ?_ | refine blk_alloc ?_ _)); exact BK377.out)) : gb377 ≠ gb378)); have n6_ := Aside0.mk ((by rw [hg]; exact Nat.ne_of_gt (blk_lt (g := gb377) (o := .cells #[.slice A0_0 l0_0.length c0_0] 48 (0, 0)) (by (with_reducible repeat (first | refine blk_drewN ?_ _ | refine blk_drew ?_ | refine blk_alloc ?_ _)); exact BK377.out)) : gb378 ≠ gb377)); clear BK377; clear HB; have BK377 := n0_; have HB := n1_; have BK378 := n2_; have GW378 := n3_; have GE378 := n4_; have NB377_378 := n5_; have NB378_377 := n6_; clear n0_ n1_ n2_ n3_ n4_ n5_ n6_; clear hb hbox hg) | ((with_reducible refine gate_dst (N := 3) rfl ?_); refine box_event ?hg (N := 3) ?hd (cs := #[.slice none 0 0]) (t := 48) ?hr ?_; (case hd => rfl); (case hg => rfl); (case hr => first | (go_simp; done) | (go_simp; rfl)); intro gb379 hg w4 hbox hb; have n0_ := Aside0.mk (blk_below (g := gb377) (o := .cells #[.slice A0_0 l0_0.length c0_0] 48 (0, 0)) (by (with_reducible repeat (first | refine blk_drewN ?_ _ | refine blk_drew ?_ | refine blk_alloc ?_ _)); exact BK377.out) hb); have n1_ := Aside0.mk (blk_below (g := gb378) (o := .cells #[.slice none 0 0] 48 (0, 0)) (by (with_reducible repeat (first | refine blk_drewN ?_ _ | refine blk_drew ?_ | refine blk_alloc ?_ _)); exact BK378.out) hb); have n2_ := Aside0.mk (below_step (by repeat (first | (with_reducible first | exact HB.out | apply below_alloc | apply pw_below_drewN | apply below_drew1 | refine below_set ?_ GE377.out | refine below_set ?_ GE378.out) | exact HB.out)) hb); have n3_ := Aside0.mk (hbox); have n4_ := Aside0.mk ((by rw [hg]; exact (below_size (by repeat (first | (with_reducible first | exact HB.out | apply below_alloc | apply pw_below_drewN | apply below_drew1 | refine below_set ?_ GE377.out | refine below_set ?_ GE378.out) | exact HB.out))) : w.heap.size ≤ gb379)); have n5_ := Aside0.mk ((by rw [hg]; exact (below_size (by repeat (first | (with_reducible first | exact HB.out | apply below_alloc | apply pw_below_drewN | apply below_drew1 | refine below_set ?_ GE377.out | refine below_set ?_ GE378.out) | exact HB.out))) : w.heap.size ≤ gb379)); have n6_ := Aside0.mk ((by rw [hg]; exact Nat.ne_of_lt (blk_lt (g := gb377) (o := .cells #[.slice A0_0 l0_0.length c0_0] 48 (0, 0)) (by (with_reducible repeat (first | refine blk_drewN ?_ _ | refine blk_drew ?_ | refine blk_alloc ?_ _)); exact BK377.out)) : gb377 ≠ gb379)); have n7_ := Aside0.mk ((by rw [hg]; exact Nat.ne_of_gt (blk_lt (g := gb377) (o := .cells #[.slice A0_0 l0_0.length c0_0] 48 (0, 0)) (by (with_reducible repeat (first | refine blk_drewN ?_ _ | refine blk_drew ?_ | refine blk_alloc ?_ _)); exact BK377.out)) : gb379 ≠ gb377)); have n8_ := Aside0.mk ((by rw [hg]; exact Nat.ne_of_lt (blk_lt (g := gb378) (o := .cells #[.slice none 0 0] 48 (0, 0)) (by (with_reducible repeat (first | refine blk_drewN ?_ _ | refine blk_drew ?_ | refine blk_alloc ?_ _)); exact BK378.out)) : gb378 ≠ gb379)); have n9_ := Aside0.mk ((by rw [hg]; exact Nat.ne_of_gt (blk_lt (g := gb378) (o := .cells #[.slice none 0 0] 48 (0, 0)) (by (with_reducible repeat (first | refine blk_drewN ?_ _ | refine blk_drew ?_ | refine blk_alloc ?_ _)); exact BK378.out)) : gb379 ≠ gb378)); clear BK377; clear BK378; clear HB; have BK377 := n0_; have BK378 := n1_; have HB := n2_; have BK379 := n3_; have GW379 := n4_; have GE379 := n5_; have NB377_379 := n6_; have NB379_377 := n7_; have NB378_379 := n8_; have NB379_378 := n9_; clear n0_ n1_ n2_ n3_ n4_ n5_ n6_ n7_ n8_ n9_; clear hb hbox hg; have hnb5 := NB379_377.out; have hnc5 := NB377_379.out; have hnb6 := NB379_378.out; have hnc6 := NB378_379.out; obtain ⟨hcz7_0, hfz7_0⟩ := blk1_ BK379.out))
 go_loopg [4] k (fun kq v4 w' => ∃ (x4_1 : Int) (x380000_1 : List (List Int)) (u380000 : Value), v4 = .int .i64 x4_1 ∧ Aside0 (entrepotref09_Norm.l0 kq x4_1 l0_0 x380000_1 = some r) ∧ Aside0 (kq ≤ k) ∧ Aside0 (Kd.S (Kd.slice 3 (Kd.int .i64)) 23 w' w.heap.size (fun _ => True) u380000 x380000_1) ∧ Aside0 (w'.heap[gb377]? = some (.cells #[(.slice A0_0 l0_0.length c0_0)] 48 (0, 0))) ∧ Aside0 (w'.heap[gb378]? = some (.cells #[(.slice none 0 0)] 48 (0, 0))) ∧ Aside0 (w'.heap[gb379]? = some (.cells #[u380000] 48 (0, 0))) ∧ Aside0 (Below w.heap.size w w'))
 case atStart => exact ⟨(0), (([] : List (List Int))), (.slice none 0 0), (by first | rfl | (simp; done) | (simp [*]; done)), H', ⟨Nat.le_refl _⟩, ⟨by first | exact Kd.S_nil _ _ _ _ _ | exact Kd.N_nil _ _ _ _ _ | exact Kd.V_nil _ _ _ _ _ | exact Kd.Q_nil _ _ _ _ _ | exact Kd.R_nil _ _ _ _ _⟩, ⟨by (with_reducible repeat (first | refine blk_drewN ?_ _ | refine blk_drew ?_ | refine blk_alloc ?_ _)); refine blk_far ?_ NB377_379.out _; (with_reducible repeat (first | refine blk_drewN ?_ _ | refine blk_drew ?_ | refine blk_alloc ?_ _)); exact BK377.out⟩, ⟨by (with_reducible repeat (first | refine blk_drewN ?_ _ | refine blk_drew ?_ | refine blk_alloc ?_ _)); refine blk_far ?_ NB378_379.out _; (with_reducible repeat (first | refine blk_drewN ?_ _ | refine blk_drew ?_ | refine blk_alloc ?_ _)); exact BK378.out⟩, ⟨by (with_reducible repeat (first | refine blk_drewN ?_ _ | refine blk_drew ?_ | refine blk_alloc ?_ _)); refine blk_put (cs := #[.slice none 0 0]) ?_ 0 _ rfl; (with_reducible repeat (first | refine blk_drewN ?_ _ | refine blk_drew ?_ | refine blk_alloc ?_ _)); exact BK379.out⟩, ⟨by repeat (first | (with_reducible first | exact HB.out | apply below_alloc | apply pw_below_drewN | apply below_drew1 | refine below_set ?_ GE377.out | refine below_set ?_ GE378.out | refine below_set ?_ GE379.out) | exact HB.out)⟩⟩
 case round =>
  clear H'
  (try clear hcz7_0); (try clear hfz7_0)
  obtain ⟨x4_1, x380000_1, u380000, rfl, HA, HK1, HO_380000, BK377, BK378, BK379, HB⟩ := hrel
  cases gk with
  | zero => exact absurd HA.out (by simp [entrepotref09_Norm.l0])
  | succ k1 =>
   have H := HA.out
   clear HA
   simp only [entrepotref09_Norm.l0] at H
   by_cases c8 : x4_1 < (l0_0.length : Int)
   ·rw [if_pos c8] at H
    have c8b0 : decide (x4_1 < (l0_0.length : Int)) = true := decide_eq_true c8
    clear c8
    by_cases c9 : 0 ≤ x4_1
    ·rw [if_pos c9] at H
     have c9b0 : decide (0 ≤ x4_1) = true := decide_eq_true c9
     clear c9
     by_cases c10 : ((rd_L1 l0_0 x4_1).length : Int) > 0
     ·rw [if_pos c10] at H
      have c10b0 : decide (0 < ((rd_L1 l0_0 x4_1).length : Int)) = true := decide_eq_true c10
      have c10b1 : decide (0 < (rd_L1 l0_0 x4_1).length) = true := decide_eq_true (by omega)
      clear c10
      obtain ⟨y381, hy381⟩ : ∃ y_ : List Int, y_ = (([] : List Int)) := ⟨_, rfl⟩
      replace H : (if y381.length + (rd_L1 l0_0 x4_1).length < 17592186044416 then (if x380000_1.length < 5864062014805 then (entrepotref09_Norm.l0 k1 (wrap64 (x4_1 + 1)) l0_0 (x380000_1 ++ [(y381 ++ (rd_L1 l0_0 x4_1))])) else (none)) else (none)) = some r := by first | (rw [hy381]; with_reducible exact H) | (have H2_ := (Option.bind_some _ _).symm.trans H; rw [hy381]; with_reducible exact H2_) | (have H2_ := (Option.bind_some _ _).symm.trans H; with_reducible exact H2_) | with_reducible exact H | (rw [hy381]; exact H) | exact H
      have Ny381 := Aside0.mk hy381
      clear hy381
      by_cases c11 : y381.length + (rd_L1 l0_0 x4_1).length < 17592186044416
      ·rw [if_pos c11] at H
       have LMc11 := Aside0.mk c11
       clear c11
       obtain ⟨y385, hy385⟩ : ∃ y_ : List Int, y_ = (y381 ++ (rd_L1 l0_0 x4_1)) := ⟨_, rfl⟩
       replace H : (if x380000_1.length < 5864062014805 then (entrepotref09_Norm.l0 k1 (wrap64 (x4_1 + 1)) l0_0 (x380000_1 ++ [y385])) else (none)) = some r := by first | (rw [hy385]; with_reducible exact H) | (have H2_ := (Option.bind_some _ _).symm.trans H; rw [hy385]; with_reducible exact H2_) | (have H2_ := (Option.bind_some _ _).symm.trans H; with_reducible exact H2_) | with_reducible exact H | (rw [hy385]; exact H) | exact H
       have Ny385 := Aside0.mk hy385
       clear hy385
       by_cases c12 : x380000_1.length < 5864062014805
       ·rw [if_pos c12] at H
        have LMc12 := Aside0.mk c12
        clear c12
        obtain ⟨y388, hy388⟩ : ∃ y_ : List (List Int), y_ = (x380000_1 ++ [y385]) := ⟨_, rfl⟩
        replace H : (entrepotref09_Norm.l0 k1 (wrap64 (x4_1 + 1)) l0_0 y388) = some r := by first | (rw [hy388]; with_reducible exact H) | (have H2_ := (Option.bind_some _ _).symm.trans H; rw [hy388]; with_reducible exact H2_) | (have H2_ := (Option.bind_some _ _).symm.trans H; with_reducible exact H2_) | with_reducible exact H | (rw [hy388]; exact H) | exact H
        have Ny388 := Aside0.mk hy388
        clear hy388
        have H' := Aside0.mk H
        clear H
        have hnb13 := NB377_378.out
        have hnc13 := NB378_377.out
        have hnb14 := NB377_379.out
        have hnc14 := NB379_377.out
        obtain ⟨hcz15_0, hfz15_0⟩ := blk1_ BK377.out
        have p380 : 0 ≤ (x4_1 : Int) := of_decide_eq_true (by first | (with_reducible assumption) | assumption)
        have q380 : x4_1 < (l0_0.length : Int) := of_decide_eq_true (by first | (with_reducible assumption) | assumption)
        obtain ⟨ad380, A380_0, c380_0, e380, hx380_0, hl380_0, hi380_0⟩ := at_L1 HR0_0.out x4_1 p380 q380
        cases e380
        replace hx380_0 := (HB.out.cell (World.block_lt_of_cell? w _ hx380_0)).trans hx380_0
        have HR380_0 := Aside0.mk hi380_0
        have HC380_0 := Aside0.mk hl380_0
        clear hi380_0 hl380_0
        replace p380 := eq_true p380
        replace q380 := eq_true q380
        try go_wp2
        have n0_ := Aside0.mk (Kd.S_drew HO_380000.out)
        have n1_ := Aside0.mk (blk_drew BK377.out)
        have n2_ := Aside0.mk (blk_drew BK378.out)
        have n3_ := Aside0.mk (blk_drew BK379.out)
        have n4_ := Aside0.mk (below_drew1 HB.out)
        clear HO_380000
        clear BK377
        clear BK378
        clear BK379
        clear HB
        have HO_380000 := n0_
        have BK377 := n1_
        have BK378 := n2_
        have BK379 := n3_
        have HB := n4_
        clear n0_ n1_ n2_ n3_ n4_
        have p384 : 0 ≤ (x4_1 : Int) := of_decide_eq_true (by first | (with_reducible assumption) | assumption)
        have q384 : x4_1 < (l0_0.length : Int) := of_decide_eq_true (by first | (with_reducible assumption) | assumption)
        obtain ⟨ad384, A384_0, c384_0, e384, hx384_0, hl384_0, hi384_0⟩ := at_L1 HR0_0.out x4_1 p384 q384
        have hw384_0 := hx384_0
        obtain rfl : ad380 = ad384 := (by injection e384)
        replace hx384_0 := (HB.out.cell (World.block_lt_of_cell? w _ hx384_0)).trans hx384_0
        have HR384_0 := Aside0.mk hi384_0
        have HC384_0 := Aside0.mk hl384_0
        clear hi384_0 hl384_0
        replace p384 := eq_true p384
        replace q384 := eq_true q384
        refine start_ (n := 13) (S := fun w' => w'.cell? ⟨gb379, 0, none⟩ = some (u380000) ∧ w'.cell? ⟨gb377, 0, none⟩ = some (.slice (some ad380) l0_0.length c0_0) ∧ w'.cell? (ad380.add (x4_1).toNat) = some (.slice A384_0 (rd_L1 l0_0 x4_1).length c384_0)) (ds := [12]) #[false, false, false, false, false, false, false, false, false, false, false, false, false] (by kernel_rfl) rfl rfl ⟨(blk_cell BK379.out 0).trans rfl, (blk_cell BK377.out 0).trans rfl, ((HB.out.cell (World.block_lt_of_cell? w _ hw384_0)).trans hw384_0)⟩ (fun hHeld => ?_); refine with_tabW entrepotref09_Norm.tab6 entrepotref09_Norm.bits6 (fun HT_ HW_ => ?_)
        generalize wr.drew = w16 at HO_380000 BK377 BK378 BK379 HB HR384_0 hx384_0 hHeld ⊢
        refine pure_ (i := 0) (N := some 20) (v := ?_) (a' := ?_) #[true, false, false, false, false, false, false, false, false, false, false, false, false] rfl rfl (any_of HT_.out (by kernel_rfl)) (fun _ _ _ h => h) (Or.inl ⟨by rfl, ?_⟩) ?_ ?_
        rotate_left
        ·intro w'
         go_simp
         with_reducible rfl
        rotate_left
        ·simp only [Act.put, z1_, z2_, z3_, i64_w, i32_w]
         rfl
        refine pure_ (i := 3) (N := some 23) (v := ?_) (a' := ?_) #[true, false, false, true, false, false, false, false, false, false, false, false, false] rfl rfl (any_of HT_.out (by kernel_rfl)) (fun _ _ _ h => h) (Or.inl ⟨by rfl, ?_⟩) ?_ ?_
        rotate_left
        ·intro w'
         go_simp
         with_reducible rfl
        rotate_left
        ·simp only [Act.put, z1_, z2_, z3_, i64_w, i32_w]
         rfl
        refine pure_ (i := 5) (N := some 25) (v := ?_) (a' := ?_) #[true, false, false, true, false, true, false, false, false, false, false, false, false] rfl rfl (any_of HT_.out (by kernel_rfl)) (fun _ _ _ h => h) (Or.inl ⟨by rfl, ?_⟩) ?_ ?_
        rotate_left
        ·intro w'
         go_simp
         with_reducible rfl
        rotate_left
        ·simp only [Act.put, z1_, z2_, z3_, i64_w, i32_w]
         rfl
        refine take_ (i := 1) (N := some 21) (v := ?_) (a' := ?_) #[true, true, false, true, false, true, false, false, false, false, false, false, false] rfl rfl (take_ofW HT_.out HW_.out (by kernel_rfl)) (fun _ _ _ h => h) (Or.inl ⟨by rfl, ?_⟩) hHeld ?_ ?_
        rotate_left
        ·rintro w' ⟨s0, s1, s2⟩
         go_simp
         with_reducible rfl
        rotate_left
        ·simp only [Act.put, z1_, z2_, z3_, i64_w, i32_w]
         rfl
        refine take_ (i := 4) (N := some 24) (v := ?_) (a' := ?_) #[true, true, false, true, true, true, false, false, false, false, false, false, false] rfl rfl (take_ofW HT_.out HW_.out (by kernel_rfl)) (fun _ _ _ h => h) (Or.inl ⟨by rfl, ?_⟩) hHeld ?_ ?_
        rotate_left
        ·rintro w' ⟨s0, s1, s2⟩
         go_simp
         with_reducible rfl
        rotate_left
        ·simp only [Act.put, z1_, z2_, z3_, i64_w, i32_w]
         rfl
        refine pure_ (i := 6) (N := some 26) (v := ?_) (a' := ?_) #[true, true, false, true, true, true, true, false, false, false, false, false, false] rfl rfl (any_of HT_.out (by kernel_rfl)) (fun _ _ _ h => h) (Or.inl ⟨by rfl, ?_⟩) ?_ ?_
        rotate_left
        ·intro w'
         go_simp
         with_reducible rfl
        rotate_left
        ·simp only [Act.put, z1_, z2_, z3_, i64_w, i32_w]
         rfl
        refine take_ (i := 7) (N := some 27) (v := ?_) (a' := ?_) #[true, true, false, true, true, true, true, true, false, false, false, false, false] rfl rfl (take_ofW HT_.out HW_.out (by kernel_rfl)) (fun _ _ _ h => h) (Or.inl ⟨by rfl, ?_⟩) hHeld ?_ ?_
        rotate_left
        ·rintro w' ⟨s0, s1, s2⟩
         go_simp
         with_reducible rfl
        rotate_left
        ·simp only [Act.put, z1_, z2_, z3_, i64_w, i32_w]
         rfl
        refine one_ (i := 2) (N := some 22) #[true, true, true, true, true, true, true, true, false, false, false, false, false] rfl rfl (one_of HT_.out (by kernel_rfl)) (by decide) (fun K hK => ?_)
        refine Kd.R_lit_step (Kd.int .i64) _ 3 ?hg (N := 22) ?hd (xs := ([] : List Int)) (inner := []) (ok := fun _ => True) (okp := fun _ => True) ?hr ?hp (fun _ hk => hk) trivial (Below.refl _ _) (Nat.le_refl _) (by simp) ?_; (case hd => rfl); (case hg => rfl); (case hr => first | (go_simp; done) | (go_simp; rfl)); (case hp => exact (Reps.none _ _))
        intro v382 w17 ho18 hb hg_ hnew_
        clear hg_ hnew_
        (first | rw [← Ny381.out] at ho18 | (simp only [Int.reduceToNat] at ho18; rw [← Ny381.out] at ho18))
        have n0_ := Aside0.mk (Kd.S_elder' (by (with_reducible repeat (first | apply Kd.S_alloc | apply Kd.S_drewN | apply Kd.S_drew)); exact HO_380000.out) (Kd.R_base ho18) hb)
        have n1_ := Aside0.mk (Kd.R_lower ho18 (below_size (by repeat (first | (with_reducible first | exact HB.out | apply below_alloc | apply pw_below_drewN | apply below_drew1 | refine below_set ?_ GE377.out | refine below_set ?_ GE378.out | refine below_set ?_ GE379.out) | exact HB.out))))
        have n2_ := Aside0.mk (blk_below (g := gb377) (o := .cells #[.slice (some ad380) l0_0.length c0_0] 48 (0, 0)) (by (with_reducible repeat (first | refine blk_drewN ?_ _ | refine blk_drew ?_ | refine blk_alloc ?_ _)); exact BK377.out) hb)
        have n3_ := Aside0.mk (blk_below (g := gb378) (o := .cells #[.slice none 0 0] 48 (0, 0)) (by (with_reducible repeat (first | refine blk_drewN ?_ _ | refine blk_drew ?_ | refine blk_alloc ?_ _)); exact BK378.out) hb)
        have n4_ := Aside0.mk (blk_below (g := gb379) (o := .cells #[u380000] 48 (0, 0)) (by (with_reducible repeat (first | refine blk_drewN ?_ _ | refine blk_drew ?_ | refine blk_alloc ?_ _)); exact BK379.out) hb)
        have n5_ := Aside0.mk (below_step (by repeat (first | (with_reducible first | exact HB.out | apply below_alloc | apply pw_below_drewN | apply below_drew1 | refine below_set ?_ GE377.out | refine below_set ?_ GE378.out | refine below_set ?_ GE379.out) | exact HB.out)) hb)
        clear HO_380000
        clear BK377
        clear BK378
        clear BK379
        clear HB
        have HO_380000 := n0_
        have HO383 := n1_
        have BK377 := n2_
        have BK378 := n3_
        have BK379 := n4_
        have HB := n5_
        clear n0_ n1_ n2_ n3_ n4_ n5_
        clear hb ho18
        refine hK.out _ _ ⟨(blk_cell BK379.out 0).trans rfl, (blk_cell BK377.out 0).trans rfl, ((HB.out.cell (World.block_lt_of_cell? w _ hw384_0)).trans hw384_0)⟩ (fun hHeld => ?_)
        clear hK K
        refine norm_ (a' := ?_) ?_ ?_
        rotate_left
        ·show Act.put _ (some 22) _ = _
         simp only [Act.put, z1_, z2_, z3_, i64_w, i32_w]
         rfl
        refine one_ (i := 8) (N := some 28) #[true, true, true, true, true, true, true, true, true, false, false, false, false] rfl rfl (one_of HT_.out (by kernel_rfl)) (by decide) (fun K hK => ?_)
        refine Kd.R_append_rows_step (Kd.int .i64) (w0 := w) w.heap.size (by rfl) (.tmp 22) (.tmp 27) 23 3 (.int .i64 0) 8 rfl Try.underlying23 info3 rfl (by decide) (by omega) v382 y381 (rd_L1 l0_0 x4_1) _ _ _ (fun _ => True) (fun _ => False) rfl rfl ?aO ?aR (fun _ _ h => h) (fun _ h => h.elim) ?aF ?aB ?aS ?aL ?_
        (case aR => repeat (first | exact (Kd.C_below HR384_0.out HB.out) | (with_reducible refine Kd.C_alloc ?_ _) | (with_reducible refine Kd.C_drewN ?_ _) | (with_reducible refine Kd.C_drew ?_)))
        (case aB => exact (by repeat (first | (with_reducible first | exact HB.out | apply below_alloc | apply pw_below_drewN | apply below_drew1 | refine below_set ?_ GE377.out | refine below_set ?_ GE378.out | refine below_set ?_ GE379.out) | exact HB.out)))
        (case aF => exact (fun _ _ => trivial))
        (case aO => exact (by (with_reducible repeat (first | apply Kd.R_alloc | apply Kd.R_drewN | apply Kd.R_drew)); exact HO383.out))
        (case aS => exact (below_size (by repeat (first | (with_reducible first | exact HB.out | apply below_alloc | apply pw_below_drewN | apply below_drew1 | refine below_set ?_ GE377.out | refine below_set ?_ GE378.out | refine below_set ?_ GE379.out) | exact HB.out))))
        (case aL => have := LMc11.out; omega)
        intro v386 w19 ho hb hg hat
        rw [← Ny385.out] at ho
        have n0_ := Aside0.mk (Kd.S_after (ok := (fun _ => True)) (by (with_reducible repeat (first | apply Kd.S_alloc | apply Kd.S_drewN | apply Kd.S_drew)); exact HO_380000.out) hg hat)
        have n1_ := Aside0.mk (blk_grown (g := gb377) (o := .cells #[.slice (some ad380) l0_0.length c0_0] 48 (0, 0)) (by (with_reducible repeat (first | refine blk_drewN ?_ _ | refine blk_drew ?_ | refine blk_alloc ?_ _)); exact BK377.out) hg (Kd.R_ne HO383.out BK377.out (by decide)))
        have n2_ := Aside0.mk (blk_grown (g := gb378) (o := .cells #[.slice none 0 0] 48 (0, 0)) (by (with_reducible repeat (first | refine blk_drewN ?_ _ | refine blk_drew ?_ | refine blk_alloc ?_ _)); exact BK378.out) hg (Kd.R_ne HO383.out BK378.out (by decide)))
        have n3_ := Aside0.mk (blk_grown (g := gb379) (o := .cells #[u380000] 48 (0, 0)) (by (with_reducible repeat (first | refine blk_drewN ?_ _ | refine blk_drew ?_ | refine blk_alloc ?_ _)); exact BK379.out) hg (Kd.R_ne HO383.out BK379.out (by decide)))
        have n4_ := Aside0.mk (hb)
        have n5_ := Aside0.mk (ho)
        clear HO_380000
        clear BK377
        clear BK378
        clear BK379
        clear HB
        clear HO383
        have HO_380000 := n0_
        have BK377 := n1_
        have BK378 := n2_
        have BK379 := n3_
        have HB := n4_
        have HO387 := n5_
        clear n0_ n1_ n2_ n3_ n4_ n5_
        clear ho hb hg hat
        obtain ⟨Ao21, co21, eo21⟩ := Kd.R_slice HO387.out
        (first | subst eo21 | (injection eo21 with f1_ f2_ f3_; have f4_ := f1_.symm; have f5_ := f3_.symm; clear f1_ f2_ f3_; subst f4_; subst f5_))
        refine hK.out _ _ ⟨(blk_cell BK379.out 0).trans rfl, (blk_cell BK377.out 0).trans rfl, ((HB.out.cell (World.block_lt_of_cell? w _ hw384_0)).trans hw384_0)⟩ (fun hHeld => ?_)
        clear hK K
        refine norm_ (a' := ?_) ?_ ?_
        rotate_left
        ·show Act.put _ (some 28) _ = _
         simp only [Act.put, z1_, z2_, z3_, i64_w, i32_w]
         rfl
        refine one_ (i := 9) (N := some 29) #[true, true, true, true, true, true, true, true, true, true, false, false, false] rfl rfl (one_of HT_.out (by kernel_rfl)) (by decide) (fun K hK => ?_)
        refine value_ (w1 := ?_) (v := ?_) (by rfl) rfl ?_ ?_
        rotate_left 2
        ·go_simp
         constructor
         ·rfl
         ·rfl
        refine hK.out _ _ ⟨(blk_cell (blk_alloc BK379.out _) 0).trans rfl, (blk_cell (blk_alloc BK377.out _) 0).trans rfl, (World.cell?_alloc_lt _ _ _ (World.block_lt_of_cell? _ _ (((HB.out.cell (World.block_lt_of_cell? w _ hw384_0)).trans hw384_0)))).trans (((HB.out.cell (World.block_lt_of_cell? w _ hw384_0)).trans hw384_0))⟩ (fun hHeld => ?_)
        clear hK K
        refine norm_ (a' := ?_) ?_ ?_
        rotate_left
        ·show Act.put _ (some 29) _ = _
         simp only [Act.put, z1_, z2_, z3_, i64_w, i32_w]
         rfl
        refine one_ (i := 10) (N := some 30) #[true, true, true, true, true, true, true, true, true, true, true, false, false] rfl rfl (one_of HT_.out (by kernel_rfl)) (by decide) (fun K hK => ?_)
        refine Kd.S_append_step (Kd.slice 3 (Kd.int .i64)) (w0 := w) w.heap.size (by rfl) (.tmp 21) (.tmp 29) 28 23 (.slice none 0 0) 24 rfl Try.underlying28 info23 rfl (by decide) (by omega) u380000 x380000_1 y385 [.slice Ao21 y385.length co21] (fun _ => True) (fun k_ => some k_ = (.slice Ao21 y385.length co21 : Value).ownBlock) rfl rfl ?aP (fun k_ hk_ => ((Kd.R_mono (ok' := fun k_ => ((fun _ => True)) k_ ∧ some k_ ≠ (u380000 : Value).ownBlock) (Kd.R_apart' (HO387.out) (Kd.S_typed HO_380000.out) (by decide)) (fun k_ hk => ⟨trivial, hk.2⟩))).1 k_ hk_.symm) ?aF ?aO ?aB ?aS ?aL ?_
        (case aP => exact Kd.M_row (Kd.R_mono (Kd.R_tight rfl (Kd.R_mono (ok' := fun k_ => ((fun _ => True)) k_ ∧ some k_ ≠ (u380000 : Value).ownBlock) (Kd.R_apart' (HO387.out) (Kd.S_typed HO_380000.out) (by decide)) (fun k_ hk => ⟨trivial, hk.2⟩))) (fun _ h_ => h_)))
        (case aB => exact (by repeat (first | (with_reducible first | exact HB.out | apply below_alloc | apply pw_below_drewN | apply below_drew1 | refine below_set ?_ GE377.out | refine below_set ?_ GE378.out | refine below_set ?_ GE379.out) | exact HB.out)))
        (case aF => exact (fun _ _ => trivial))
        (case aO => exact (by (with_reducible repeat (first | apply Kd.S_alloc | apply Kd.S_drewN | apply Kd.S_drew)); exact Kd.S_mono HO_380000.out (fun k_ hk => ⟨trivial, fun e_ => hk.2 e_⟩)))
        (case aS => exact (below_size (by repeat (first | (with_reducible first | exact HB.out | apply below_alloc | apply pw_below_drewN | apply below_drew1 | refine below_set ?_ GE377.out | refine below_set ?_ GE378.out | refine below_set ?_ GE379.out) | exact HB.out))))
        (case aL => have := LMc12.out; omega)
        intro v389 w20 ho hb hg hat
        rw [← Ny388.out] at ho
        have n0_ := Aside0.mk (blk_grown (g := gb377) (o := .cells #[.slice (some ad380) l0_0.length c0_0] 48 (0, 0)) (by (with_reducible repeat (first | refine blk_drewN ?_ _ | refine blk_drew ?_ | refine blk_alloc ?_ _)); exact BK377.out) hg (Kd.S_ne HO_380000.out BK377.out (by decide)))
        have n1_ := Aside0.mk (blk_grown (g := gb378) (o := .cells #[.slice none 0 0] 48 (0, 0)) (by (with_reducible repeat (first | refine blk_drewN ?_ _ | refine blk_drew ?_ | refine blk_alloc ?_ _)); exact BK378.out) hg (Kd.S_ne HO_380000.out BK378.out (by decide)))
        have n2_ := Aside0.mk (blk_grown (g := gb379) (o := .cells #[u380000] 48 (0, 0)) (by (with_reducible repeat (first | refine blk_drewN ?_ _ | refine blk_drew ?_ | refine blk_alloc ?_ _)); exact BK379.out) hg (Kd.S_ne HO_380000.out BK379.out (by decide)))
        have n3_ := Aside0.mk (hb)
        have n4_ := Aside0.mk (ho)
        clear BK377
        clear BK378
        clear BK379
        clear HB
        clear HO_380000
        clear HO387
        have BK377 := n0_
        have BK378 := n1_
        have BK379 := n2_
        have HB := n3_
        have HO390 := n4_
        clear n0_ n1_ n2_ n3_ n4_
        clear ho hb hg hat
        obtain ⟨Ao22, co22, eo22⟩ := Kd.S_slice HO390.out
        (first | subst eo22 | (injection eo22 with f1_ f2_ f3_; have f4_ := f1_.symm; have f5_ := f3_.symm; clear f1_ f2_ f3_; subst f4_; subst f5_))
        refine hK.out _ _ ⟨(blk_cell BK379.out 0).trans rfl, (blk_cell BK377.out 0).trans rfl, ((HB.out.cell (World.block_lt_of_cell? w _ hw384_0)).trans hw384_0)⟩ (fun hHeld => ?_)
        clear hK K
        refine norm_ (a' := ?_) ?_ ?_
        rotate_left
        ·show Act.put _ (some 30) _ = _
         simp only [Act.put, z1_, z2_, z3_, i64_w, i32_w]
         rfl
        refine pure_ (i := 11) (N := some 31) (v := ?_) (a' := ?_) #[true, true, true, true, true, true, true, true, true, true, true, true, false] rfl rfl (any_of HT_.out (by kernel_rfl)) (fun _ _ _ h => h) (Or.inl ⟨by rfl, ?_⟩) ?_ ?_
        rotate_left
        ·intro w'
         go_simp
         with_reducible rfl
        rotate_left
        ·simp only [Act.put, z1_, z2_, z3_, i64_w, i32_w]
         rfl
        refine last_ (i := 12) (N := none) #[true, true, true, true, true, true, true, true, true, true, true, true, true] rfl rfl (one_of HT_.out (by kernel_rfl)) (by decide) (fun K hK => ?_)
        have hs23 : w20.cell? ⟨gb379, 0, none⟩ = some (u380000) := (blk_cell BK379.out 0).trans rfl
        have hfs23 := blk_frozen BK379.out 0
        have hns23_0 := NB377_379.out
        have hns23_1 := NB378_379.out
        have hms23_0 := NB379_377.out
        have hms23_1 := NB379_378.out
        refine skip_ (w1 := ?_) (by rfl) rfl ?_ ?_
        rotate_left
        ·go_simp
         rfl
        refine hK.out _ _ ?_
        clear hK K
        refine done_ (done_of HT_.out (by kernel_rfl)) ?_
        try go_wp2
        go_roundg k1
        case measure => have := HK1.out; omega
        case rel => exact ⟨(wrap64 (x4_1 + 1)), (y388), (.slice Ao22 y388.length co22), (by first | rfl | (simp; done) | (simp [*]; done)), H', ⟨by have := HK1.out; omega⟩, ⟨by (with_reducible repeat (first | apply Kd.S_alloc | apply Kd.S_drewN | apply Kd.S_drew)); exact Kd.S_mono (Kd.S_far (p := ⟨gb379, 0, none⟩) (Kd.S_types HO390.out BK379.out (by decide)) (fun _ hk => hk.2) (.slice Ao22 y388.length co22)) (fun _ hk => trivial)⟩, ⟨by (with_reducible repeat (first | refine blk_drewN ?_ _ | refine blk_drew ?_ | refine blk_alloc ?_ _)); refine blk_far ?_ NB377_379.out _; (with_reducible repeat (first | refine blk_drewN ?_ _ | refine blk_drew ?_ | refine blk_alloc ?_ _)); exact BK377.out⟩, ⟨by (with_reducible repeat (first | refine blk_drewN ?_ _ | refine blk_drew ?_ | refine blk_alloc ?_ _)); refine blk_far ?_ NB378_379.out _; (with_reducible repeat (first | refine blk_drewN ?_ _ | refine blk_drew ?_ | refine blk_alloc ?_ _)); exact BK378.out⟩, ⟨by (with_reducible repeat (first | refine blk_drewN ?_ _ | refine blk_drew ?_ | refine blk_alloc ?_ _)); refine blk_put (cs := #[u380000]) ?_ 0 _ rfl; (with_reducible repeat (first | refine blk_drewN ?_ _ | refine blk_drew ?_ | refine blk_alloc ?_ _)); exact BK379.out⟩, ⟨by repeat (first | (with_reducible first | exact HB.out | apply below_alloc | apply pw_below_drewN | apply below_drew1 | refine below_set ?_ GE377.out | refine below_set ?_ GE378.out | refine below_set ?_ GE379.out) | exact HB.out)⟩⟩
       ·rw [if_neg c12] at H
        exact absurd H (by simp)
      ·rw [if_neg c11] at H
       exact absurd H (by simp)
     ·rw [if_neg c10] at H
      have c10b0 : decide (0 < ((rd_L1 l0_0 x4_1).length : Int)) = false := decide_eq_false c10
      have c10b1 : decide (0 < (rd_L1 l0_0 x4_1).length) = false := decide_eq_false (by omega)
      clear c10
      have H' := Aside0.mk H
      clear H
      have hnb24 := NB377_378.out
      have hnc24 := NB378_377.out
      have hnb25 := NB377_379.out
      have hnc25 := NB379_377.out
      obtain ⟨hcz26_0, hfz26_0⟩ := blk1_ BK377.out
      have p380 : 0 ≤ (x4_1 : Int) := of_decide_eq_true (by first | (with_reducible assumption) | assumption)
      have q380 : x4_1 < (l0_0.length : Int) := of_decide_eq_true (by first | (with_reducible assumption) | assumption)
      obtain ⟨ad380, A380_0, c380_0, e380, hx380_0, hl380_0, hi380_0⟩ := at_L1 HR0_0.out x4_1 p380 q380
      cases e380
      replace hx380_0 := (HB.out.cell (World.block_lt_of_cell? w _ hx380_0)).trans hx380_0
      have HR380_0 := Aside0.mk hi380_0
      have HC380_0 := Aside0.mk hl380_0
      clear hi380_0 hl380_0
      replace p380 := eq_true p380
      replace q380 := eq_true q380
      go_wp2
      go_roundg k1
      case measure => have := HK1.out; omega
      case rel => exact ⟨(wrap64 (x4_1 + 1)), (x380000_1), (u380000), (by first | rfl | (simp; done) | (simp [*]; done)), H', ⟨by have := HK1.out; omega⟩, ⟨by (with_reducible repeat (first | apply Kd.S_alloc | apply Kd.S_drewN | apply Kd.S_drew)); exact HO_380000.out⟩, ⟨by (with_reducible repeat (first | refine blk_drewN ?_ _ | refine blk_drew ?_ | refine blk_alloc ?_ _)); exact BK377.out⟩, ⟨by (with_reducible repeat (first | refine blk_drewN ?_ _ | refine blk_drew ?_ | refine blk_alloc ?_ _)); exact BK378.out⟩, ⟨by (with_reducible repeat (first | refine blk_drewN ?_ _ | refine blk_drew ?_ | refine blk_alloc ?_ _)); exact BK379.out⟩, ⟨by repeat (first | (with_reducible first | exact HB.out | apply below_alloc | apply pw_below_drewN | apply below_drew1 | refine below_set ?_ GE377.out | refine below_set ?_ GE378.out | refine below_set ?_ GE379.out) | exact HB.out)⟩⟩
    ·rw [if_neg c9] at H
     exact absurd H (by simp)
   ·rw [if_neg c8] at H
    have c8b0 : decide (x4_1 < (l0_0.length : Int)) = false := decide_eq_false c8
    clear c8
    obtain rfl := Option.some.inj H
    have hnb27 := NB377_378.out
    have hnc27 := NB378_377.out
    have hnb28 := NB377_379.out
    have hnc28 := NB379_377.out
    obtain ⟨hcz29_0, hfz29_0⟩ := blk1_ BK377.out
    have hnb30 := NB379_378.out
    have hnc30 := NB378_379.out
    obtain ⟨hcz31_0, hfz31_0⟩ := blk1_ BK379.out
    obtain ⟨Ao32, co32, eo32⟩ := Kd.S_slice HO_380000.out
    subst eo32
    obtain ⟨hcz33_0, hfz33_0⟩ := blk1_ BK378.out
    go_wp2
    refine bodyPost_ret (results_cell_row rfl _ _ gb378 48 #[.slice Ao32 x380000_1.length co32] (0, 0) _ rfl (by (with_reducible repeat (first | refine blk_drewN ?_ _ | refine blk_drew ?_ | refine blk_alloc ?_ _)); refine blk_put (cs := #[.slice none 0 0]) ?_ 0 _ rfl; (with_reducible repeat (first | refine blk_drewN ?_ _ | refine blk_drew ?_ | refine blk_alloc ?_ _)); exact BK378.out) Try.underlying48 rfl (by kernel_rfl)) rfl ?_
    exact ⟨_, by first | rfl | (simp [errW_none, errW_some] <;> rfl) | (simp [*, errW_none, errW_some] <;> rfl), by (with_reducible repeat (first | apply Kd.S_alloc | apply Kd.S_drewN | apply Kd.S_drew)); exact Kd.S_mono (Kd.S_far (p := ⟨gb378, 0, none⟩) (Kd.S_types HO_380000.out BK378.out (by decide)) (fun _ hk => hk.2) (.slice Ao32 x380000_1.length co32)) (fun _ hk => trivial), by repeat (first | (with_reducible first | exact HB.out | apply below_alloc | apply pw_below_drewN | apply below_drew1 | refine below_set ?_ GE377.out | refine below_set ?_ GE378.out | refine below_set ?_ GE379.out) | exact HB.out)⟩

end Go.Proofs.Ytlncbckpcmojpaa.P
