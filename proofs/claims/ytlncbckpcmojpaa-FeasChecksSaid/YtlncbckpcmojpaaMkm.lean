/- Texts of this session in one: The reference of layer 11: are all stops nodes; the loads of a route. Their walks.; The reference of layer 11: the way from node to node, and its unit.; The reference of layer 11: when the services of a route begin. Its walk.; Contracts of the reference of layer 11, as printed texts call them. -/
import Derived.Test.YtlncbckpcmojpaaPx0
import Derived.Test.YtlncbckpcmojpaaMka
import Derived.Test.YtlncbckpcmojpaaMkl
import Derived.Test.YtlncbckpcmojpaaGRef8C
import Derived.Test.YtlncbckpcmojpaaMkg
set_option linter.unusedSimpArgs false
set_option linter.unusedVariables false
namespace Go.Proofs.Ytlncbckpcmojpaa.P
open Go.RowKit Go.Proofs.YtlncbckpcmojpaaW.PrintWords Go.Proofs.YtlncbckpcmojpaaW.PrintLast Go.Proofs.YtlncbckpcmojpaaW.PrintMore
attribute [local go_sem] max2_int min2_int max_two min_two max_three min_three max_four min_four

/-! ### entrepotref10_node: function 74 -/
def entrepotref10_node.f (a0_0 : ByteArray) (a0_1 : Int) (a0_2 : Int) (a0_3 : Int) (a0_4 : Int) (a0_5 : Int) (l0_6 : List (S77)) (l0_7 : List Int) (a1 : Int) : Option (Bool) := if a1 ≥ 0 then (some (decide (a1 < (l0_6.length : Int)))) else (some false)
set_option maxHeartbeats 8000000 in
set_option maxRecDepth 100000 in
theorem entrepotref10_node.calls (a0_0 : ByteArray) (a0_1 : Int) (a0_2 : Int) (a0_3 : Int) (a0_4 : Int) (a0_5 : Int) (A0_6 : Option Addr) (c0_6 : Nat) (l0_6 : List (S77)) (A0_7 : Option Addr) (c0_7 : Nat) (l0_7 : List Int) (a1 : Int) (r : Bool) (w : World) (hr0_6 : Kd.C k77 w A0_6 l0_6.length l0_6) (hc0_6 : l0_6.length ≤ c0_6) (hr0_7 : Kd.C (Kd.int .i64) w A0_7 l0_7.length l0_7) (hc0_7 : l0_7.length ≤ c0_7) (h : entrepotref10_node.f a0_0 a0_1 a0_2 a0_3 a0_4 a0_5 l0_6 l0_7 a1 = some r) :
  Calls Try.prog 74 #[.agg #[.string a0_0, .int .i64 a0_1, .int .i64 a0_2, .int .i64 a0_3, .int .i64 a0_4, .int .i64 a0_5, .slice A0_6 l0_6.length c0_6, .slice A0_7 l0_7.length c0_7], .int .i64 a1] w fun e w' => e = .returned (.bool r) ∧ Below w.heap.size w w' := by
 have hu46 := Try.underlying46
 have HR0_6 := Aside0.mk hr0_6
 have HC0_6 := Aside0.mk hc0_6
 clear hr0_6 hc0_6
 have HR0_7 := Aside0.mk hr0_7
 have HC0_7 := Aside0.mk hc0_7
 clear hr0_7 hc0_7
 have HB := Aside0.mk (Below.refl w.heap.size w)
 have H : (if a1 ≥ 0 then (some (decide (a1 < (l0_6.length : Int)))) else (some false)) = some r := h
 clear h
 by_cases c3 : a1 ≥ 0
 ·rw [if_pos c3] at H
  have c3b0 : decide (0 ≤ a1) = true := decide_eq_true c3
  clear c3
  obtain rfl := Option.some.inj H
  go_enter Try.func74, Try.ntmps74
  go_wp2_with (first | ((with_reducible refine gate_dst (N := 2) rfl ?_); (try (refine gate_guard (by rfl) ?_; dsimp only)); refine box_event ?hg (N := 2) ?hd (cs := #[.string a0_0, .int .i64 a0_1, .int .i64 a0_2, .int .i64 a0_3, .int .i64 a0_4, .int .i64 a0_5, .slice A0_6 l0_6.length c0_6, .slice A0_7 l0_7.length c0_7]) (t := 46) ?hr ?_; (case hd => rfl); (case hg => rfl); (case hr => first | (go_simp; done) | (go_simp; rfl)); intro gb405 hg w4 hbox hb; have n0_ := Aside0.mk (below_step (by repeat (first | (with_reducible first | exact HB.out | apply below_alloc | apply pw_below_drewN | apply below_drew1) | exact HB.out)) hb); have n1_ := Aside0.mk (hbox); have n2_ := Aside0.mk ((by rw [hg]; exact (below_size (by repeat (first | (with_reducible first | exact HB.out | apply below_alloc | apply pw_below_drewN | apply below_drew1) | exact HB.out))) : w.heap.size ≤ gb405)); have n3_ := Aside0.mk ((by rw [hg]; exact (below_size (by repeat (first | (with_reducible first | exact HB.out | apply below_alloc | apply pw_below_drewN | apply below_drew1) | exact HB.out))) : w.heap.size ≤ gb405)); clear HB; have HB := n0_; have BK405 := n1_; have GW405 := n2_; have GE405 := n3_; clear n0_ n1_ n2_ n3_; clear hb hbox hg; obtain ⟨hcz5_0, hcz5_1, hcz5_2, hcz5_3, hcz5_4, hcz5_5, hcz5_6, hcz5_7, hfz5_0, hfz5_1, hfz5_2, hfz5_3, hfz5_4, hfz5_5, hfz5_6, hfz5_7⟩ := blk8_ BK405.out))
  go_ret
  exact ⟨by first | rfl | (simp [errW_none, errW_some] <;> rfl) | (simp [*, errW_none, errW_some] <;> rfl), by repeat (first | (with_reducible first | exact HB.out | apply below_alloc | apply pw_below_drewN | apply below_drew1 | refine below_set ?_ GE405.out) | exact HB.out)⟩
 ·rw [if_neg c3] at H
  have c3b0 : decide (0 ≤ a1) = false := decide_eq_false c3
  clear c3
  obtain rfl := Option.some.inj H
  go_enter Try.func74, Try.ntmps74
  go_wp2_with (first | ((with_reducible refine gate_dst (N := 2) rfl ?_); (try (refine gate_guard (by rfl) ?_; dsimp only)); refine box_event ?hg (N := 2) ?hd (cs := #[.string a0_0, .int .i64 a0_1, .int .i64 a0_2, .int .i64 a0_3, .int .i64 a0_4, .int .i64 a0_5, .slice A0_6 l0_6.length c0_6, .slice A0_7 l0_7.length c0_7]) (t := 46) ?hr ?_; (case hd => rfl); (case hg => rfl); (case hr => first | (go_simp; done) | (go_simp; rfl)); intro gb405 hg w6 hbox hb; have n0_ := Aside0.mk (below_step (by repeat (first | (with_reducible first | exact HB.out | apply below_alloc | apply pw_below_drewN | apply below_drew1) | exact HB.out)) hb); have n1_ := Aside0.mk (hbox); have n2_ := Aside0.mk ((by rw [hg]; exact (below_size (by repeat (first | (with_reducible first | exact HB.out | apply below_alloc | apply pw_below_drewN | apply below_drew1) | exact HB.out))) : w.heap.size ≤ gb405)); have n3_ := Aside0.mk ((by rw [hg]; exact (below_size (by repeat (first | (with_reducible first | exact HB.out | apply below_alloc | apply pw_below_drewN | apply below_drew1) | exact HB.out))) : w.heap.size ≤ gb405)); clear HB; have HB := n0_; have BK405 := n1_; have GW405 := n2_; have GE405 := n3_; clear n0_ n1_ n2_ n3_; clear hb hbox hg))
  go_ret
  exact ⟨by first | rfl | (simp [errW_none, errW_some] <;> rfl) | (simp [*, errW_none, errW_some] <;> rfl), by repeat (first | (with_reducible first | exact HB.out | apply below_alloc | apply pw_below_drewN | apply below_drew1 | refine below_set ?_ GE405.out) | exact HB.out)⟩

end Go.Proofs.Ytlncbckpcmojpaa.P
namespace Go.Proofs.Ytlncbckpcmojpaa.P
open Go.RowKit Go.Proofs.YtlncbckpcmojpaaW.PrintWords Go.Proofs.YtlncbckpcmojpaaW.PrintLast Go.Proofs.YtlncbckpcmojpaaW.PrintMore
attribute [local go_sem] max2_int min2_int max_two min_two max_three min_three max_four min_four

/-! ### entrepotref10_Between: function 61 -/
def entrepotref10_Between.j0 : Nat → Int → Int → Bool → ByteArray → Int → Int → Int → Int → Int → List (S77) → List Int → Option (Int × Int)
 | 0, _, _, _, _, _, _, _, _, _, _, _ => none
 | k + 1, x1, x2, x17, x420000, x420001, x420002, x420003, x420004, x420005, x420006, x420007 => if x17 = true then (some (0, 1)) else (if x420002 = 0 then (if 0 ≤ (wrap64 ((wrap64 (x1 * (x420006.length : Int))) + x2)) then (if (wrap64 ((wrap64 (x1 * (x420006.length : Int))) + x2)) < (x420007.length : Int) then (some (rd x420007 (wrap64 ((wrap64 (x1 * (x420006.length : Int))) + x2)), 0)) else (none)) else (none)) else (if 0 ≤ x2 then (if x2 < (x420006.length : Int) then (if 0 ≤ x1 then (if x1 < (x420006.length : Int) then ((entrepotref06_Dist.f k x420002 x420003 (wrap64 (((rd_T77 x420006 x2).f0) - ((rd_T77 x420006 x1).f0))) (wrap64 (((rd_T77 x420006 x2).f1) - ((rd_T77 x420006 x1).f1)))).bind fun bt427 => (some (bt427.1, bt427.2))) else (none)) else (none)) else (none)) else (none)))
def entrepotref10_Between.f (k : Nat) (a0_0 : ByteArray) (a0_1 : Int) (a0_2 : Int) (a0_3 : Int) (a0_4 : Int) (a0_5 : Int) (l0_6 : List (S77)) (l0_7 : List Int) (a1 : Int) (a2 : Int) : Option (Int × Int) := (entrepotref10_node.f a0_0 a0_1 a0_2 a0_3 a0_4 a0_5 l0_6 l0_7 a1).bind fun t420 => (if t420 = true then ((entrepotref10_node.f a0_0 a0_1 a0_2 a0_3 a0_4 a0_5 l0_6 l0_7 a2).bind fun t421 => (entrepotref10_Between.j0 k a1 a2 (!t421) a0_0 a0_1 a0_2 a0_3 a0_4 a0_5 l0_6 l0_7)) else (entrepotref10_Between.j0 k a1 a2 true a0_0 a0_1 a0_2 a0_3 a0_4 a0_5 l0_6 l0_7))
theorem entrepotref10_Between.mono_l : ∀ k, (∀ y0 y1 y2 y3 y4 y5 y6 y7 y8 y9 y10, LeO (entrepotref10_Between.j0 k y0 y1 y2 y3 y4 y5 y6 y7 y8 y9 y10) (entrepotref10_Between.j0 (k + 1) y0 y1 y2 y3 y4 y5 y6 y7 y8 y9 y10))
 | 0 => fun _ _ _ _ _ _ _ _ _ _ _ r h => by simp [entrepotref10_Between.j0] at h
 | k + 1 => by
  have ih0 := entrepotref10_Between.mono_l k
  ·intro y0 y1 y2 y3 y4 y5 y6 y7 y8 y9 y10
   unfold entrepotref10_Between.j0
   repeat' first
   | (with_reducible exact ih0 _ _ _ _ _ _ _ _ _ _ _)
   | (with_reducible exact entrepotref06_Dist.mono _ _ _ _ _)
   | (with_reducible exact LeO.refl _)
   | (with_reducible exact LeO.none _)
   | (with_reducible refine LeO.ite ?_ ?_)
   | (with_reducible refine LeO.bind ?_ (fun _ => ?_))
   | exact ih0 _ _ _ _ _ _ _ _ _ _ _
   | exact entrepotref06_Dist.mono _ _ _ _ _
   | exact LeO.none _
   | refine LeO.ite ?_ ?_
   | refine LeO.bind ?_ (fun _ => ?_)
theorem entrepotref10_Between.mono : ∀ a0 a1 a2 a3 a4 a5 a6 a7 a8 a9 k, LeO (entrepotref10_Between.f k a0 a1 a2 a3 a4 a5 a6 a7 a8 a9) (entrepotref10_Between.f (k + 1) a0 a1 a2 a3 a4 a5 a6 a7 a8 a9) := by
 intro a0 a1 a2 a3 a4 a5 a6 a7 a8 a9 k
 have ih0 := entrepotref10_Between.mono_l k
 unfold entrepotref10_Between.f
 repeat' first
   | (with_reducible exact ih0 _ _ _ _ _ _ _ _ _ _ _)
   | (with_reducible exact entrepotref06_Dist.mono _ _ _ _ _)
   | (with_reducible exact LeO.refl _)
   | (with_reducible exact LeO.none _)
   | (with_reducible refine LeO.ite ?_ ?_)
   | (with_reducible refine LeO.bind ?_ (fun _ => ?_))
   | exact ih0 _ _ _ _ _ _ _ _ _ _ _
   | exact entrepotref06_Dist.mono _ _ _ _ _
   | exact LeO.none _
   | refine LeO.ite ?_ ?_
   | refine LeO.bind ?_ (fun _ => ?_)
def entrepotref10_Between.T5 : Bool × List (List Nat × List Nat) := (true, [([], []), ([0], [0]), ([], []), ([2], [2]), ([], []), ([4], [4]), ([], []), ([5, 6], [5, 6]), ([7], [7]), ([8], [8]), ([], []), ([10], [10]), ([], []), ([11, 12], [11, 12]), ([13], [13]), ([14], [14]), ([9, 15], [9, 15]), ([], []), ([17], [17]), ([], []), ([18, 19], [18, 19]), ([20], [20]), ([21], [21]), ([], []), ([23], [23]), ([], []), ([24, 25], [24, 25]), ([26], [26]), ([27], [27]), ([22, 28], [22, 28]), ([1, 3, 16, 29], [1, 3, 16, 29]), ([30], [30]), ([30], [30]), ([31, 30, 0, 1, 2, 3, 4, 5, 6, 7, 8, 9, 10, 11, 12, 13, 14, 15, 16, 17, 18, 19, 20, 21, 22, 23, 24, 25, 26, 27, 28, 29, 30, 31, 32], [31]), ([32, 33, 0, 1, 2, 3, 4, 5, 6, 7, 8, 9, 10, 11, 12, 13, 14, 15, 16, 17, 18, 19, 20, 21, 22, 23, 24, 25, 26, 27, 28, 29, 30, 31, 32, 33], [32])])
def entrepotref10_Between.B5 : List Nat := [0, 1, 0, 4, 0, 16, 0, 112, 240, 496, 0, 1024, 0, 7168, 15360, 31744, 65520, 0, 131072, 0, 917504, 1966080, 4063232, 0, 8388608, 0, 58720256, 125829120, 260046848, 536739840, 1073741823, 2147483647, 2147483647, 8589934591, 17179869183]
theorem entrepotref10_Between.tab5 : rtab .any (opsOf Try.f61 5) = entrepotref10_Between.T5 := by kernel_rfl
theorem entrepotref10_Between.bits5 : waitsOk entrepotref10_Between.T5.2 entrepotref10_Between.B5 = true := by kernel_rfl
set_option maxHeartbeats 8000000 in
set_option maxRecDepth 100000 in
theorem entrepotref10_Between.calls (k : Nat) (a0_0 : ByteArray) (a0_1 : Int) (a0_2 : Int) (a0_3 : Int) (a0_4 : Int) (a0_5 : Int) (A0_6 : Option Addr) (c0_6 : Nat) (l0_6 : List (S77)) (A0_7 : Option Addr) (c0_7 : Nat) (l0_7 : List Int) (a1 : Int) (a2 : Int) (r1 : Int) (r2 : Int) (w : World) (hr0_6 : Kd.C k77 w A0_6 l0_6.length l0_6) (hc0_6 : l0_6.length ≤ c0_6) (hr0_7 : Kd.C (Kd.int .i64) w A0_7 l0_7.length l0_7) (hc0_7 : l0_7.length ≤ c0_7) (h : entrepotref10_Between.f k a0_0 a0_1 a0_2 a0_3 a0_4 a0_5 l0_6 l0_7 a1 a2 = some (r1, r2)) :
  Calls Try.prog 61 #[.agg #[.string a0_0, .int .i64 a0_1, .int .i64 a0_2, .int .i64 a0_3, .int .i64 a0_4, .int .i64 a0_5, .slice A0_6 l0_6.length c0_6, .slice A0_7 l0_7.length c0_7], .int .i64 a1, .int .i64 a2] w fun e w' => e = .returned (.tuple #[.int .i64 r1, .int .i64 r2]) ∧ Below w.heap.size w w' := by
 have hu46 := Try.underlying46
 have HR0_6 := Aside0.mk hr0_6
 have HC0_6 := Aside0.mk hc0_6
 clear hr0_6 hc0_6
 have HR0_7 := Aside0.mk hr0_7
 have HC0_7 := Aside0.mk hc0_7
 clear hr0_7 hc0_7
 have HB := Aside0.mk (Below.refl w.heap.size w)
 have H : ((entrepotref10_node.f a0_0 a0_1 a0_2 a0_3 a0_4 a0_5 l0_6 l0_7 a1).bind fun t420 => (if t420 = true then ((entrepotref10_node.f a0_0 a0_1 a0_2 a0_3 a0_4 a0_5 l0_6 l0_7 a2).bind fun t421 => (entrepotref10_Between.j0 k a1 a2 (!t421) a0_0 a0_1 a0_2 a0_3 a0_4 a0_5 l0_6 l0_7)) else (entrepotref10_Between.j0 k a1 a2 true a0_0 a0_1 a0_2 a0_3 a0_4 a0_5 l0_6 l0_7))) = some (r1, r2) := h
 clear h
 have HC4 := Aside0.mk H
 clear H
 go_enter Try.func61, Try.ntmps61
 go_upto_region 1 with (first | ((with_reducible refine gate_dst (N := 3) rfl ?_); refine box_event ?hg (N := 3) ?hd (cs := #[.string a0_0, .int .i64 a0_1, .int .i64 a0_2, .int .i64 a0_3, .int .i64 a0_4, .int .i64 a0_5, .slice A0_6 l0_6.length c0_6, .slice A0_7 l0_7.length c0_7]) (t := 46) ?hr ?_; (case hd => rfl); (case hg => rfl); (case hr => first | (go_simp; done) | (go_simp; rfl)); intro gb419 hg w5 hbox hb; have n0_ := Aside0.mk (below_step (by repeat (first | (with_reducible first | exact HB.out | apply below_alloc | apply pw_below_drewN | apply below_drew1) | exact HB.out)) hb); have n1_ := Aside0.mk (hbox); have n2_ := Aside0.mk ((by rw [hg]; exact (below_size (by repeat (first | (with_reducible first | exact HB.out | apply below_alloc | apply pw_below_drewN | apply below_drew1) | exact HB.out))) : w.heap.size ≤ gb419)); have n3_ := Aside0.mk ((by rw [hg]; exact (below_size (by repeat (first | (with_reducible first | exact HB.out | apply below_alloc | apply pw_below_drewN | apply below_drew1) | exact HB.out))) : w.heap.size ≤ gb419)); clear HB; have HB := n0_; have BK419 := n1_; have GW419 := n2_; have GE419 := n3_; clear n0_ n1_ n2_ n3_; clear hb hbox hg))
 (try simp only [Act.put, z1_, z2_, z3_])
 go_cut [17] (fun v17 wc => ∃ (kq : Nat) (x17_3 : Bool), v17 = .bool x17_3 ∧ Aside0 (entrepotref10_Between.j0 kq a1 a2 x17_3 a0_0 a0_1 a0_2 a0_3 a0_4 a0_5 l0_6 l0_7 = some (r1, r2)) ∧ Aside0 (kq ≤ k) ∧ Aside0 (wc.heap[gb419]? = some (.cells #[.string a0_0, .int .i64 a0_1, .int .i64 a0_2, .int .i64 a0_3, .int .i64 a0_4, .int .i64 a0_5, (.slice A0_6 l0_6.length c0_6), (.slice A0_7 l0_7.length c0_7)] 46 (0, 0))) ∧ Aside0 (Below w.heap.size w wc))
 case first =>
  have H := HC4.out
  clear HC4
  replace H := Option.bind_eq_some_iff.mp H
  obtain ⟨t420, A60, H⟩ := H
  replace H : (if t420 = true then ((entrepotref10_node.f a0_0 a0_1 a0_2 a0_3 a0_4 a0_5 l0_6 l0_7 a2).bind fun t421 => (entrepotref10_Between.j0 k a1 a2 (!t421) a0_0 a0_1 a0_2 a0_3 a0_4 a0_5 l0_6 l0_7)) else (entrepotref10_Between.j0 k a1 a2 true a0_0 a0_1 a0_2 a0_3 a0_4 a0_5 l0_6 l0_7)) = some (r1, r2) := H
  have A6 := Aside0.mk A60
  clear A60
  by_cases c7 : t420 = true
  ·subst c7
   have H1 : ((entrepotref10_node.f a0_0 a0_1 a0_2 a0_3 a0_4 a0_5 l0_6 l0_7 a2).bind fun t421 => (entrepotref10_Between.j0 k a1 a2 (!t421) a0_0 a0_1 a0_2 a0_3 a0_4 a0_5 l0_6 l0_7)) = some (r1, r2) := by rw [if_pos rfl] at H; exact H
   clear H
   have H := H1
   clear H1
   replace H := Option.bind_eq_some_iff.mp H
   obtain ⟨t421, A80, H⟩ := H
   replace H : (entrepotref10_Between.j0 k a1 a2 (!t421) a0_0 a0_1 a0_2 a0_3 a0_4 a0_5 l0_6 l0_7) = some (r1, r2) := H
   have A8 := Aside0.mk A80
   clear A80
   have H' := Aside0.mk H
   clear H
   obtain ⟨hcz9_0, hcz9_1, hcz9_2, hcz9_3, hcz9_4, hcz9_5, hcz9_6, hcz9_7, hfz9_0, hfz9_1, hfz9_2, hfz9_3, hfz9_4, hfz9_5, hfz9_6, hfz9_7⟩ := blk8_ BK419.out
   go_wp2_with (first | ((with_reducible refine gate_callee (f := 74) rfl ?_); refine goesL_ (some 10) rfl rfl Try.func74 (by kernel_rfl) rfl #[.agg #[.string a0_0, .int .i64 a0_1, .int .i64 a0_2, .int .i64 a0_3, .int .i64 a0_4, .int .i64 a0_5, .slice A0_6 l0_6.length c0_6, .slice A0_7 l0_7.length c0_7], .int .i64 a1] rfl (by (try simp only [List.map_toArray, List.map_cons, List.map_nil]); first | done | rfl | (simp only [List.length_drop, List.length_take]; rfl)) ?_; (with_reducible refine (entrepotref10_node.calls a0_0 a0_1 a0_2 a0_3 a0_4 a0_5 _ _ l0_6 _ _ l0_7 a1 true _ ?side1 ?side2 ?side3 ?side4 A6.out).mono ?_); (case side1 => repeat (first | exact (Kd.C_below HR0_6.out HB.out) | (with_reducible refine Kd.C_alloc ?_ _) | (with_reducible refine Kd.C_drewN ?_ _) | (with_reducible refine Kd.C_drew ?_))); (case side2 => exact HC0_6.out); (case side3 => repeat (first | exact (Kd.C_below HR0_7.out HB.out) | (with_reducible refine Kd.C_alloc ?_ _) | (with_reducible refine Kd.C_drewN ?_ _) | (with_reducible refine Kd.C_drew ?_))); (case side4 => exact HC0_7.out); rintro e w10 ⟨rfl, hb⟩; refine ⟨_, rfl, ?_⟩; have n0_ := Aside0.mk (blk_below (g := gb419) (o := .cells #[.string a0_0, .int .i64 a0_1, .int .i64 a0_2, .int .i64 a0_3, .int .i64 a0_4, .int .i64 a0_5, .slice A0_6 l0_6.length c0_6, .slice A0_7 l0_7.length c0_7] 46 (0, 0)) (by (with_reducible repeat (first | refine blk_drewN ?_ _ | refine blk_drew ?_ | refine blk_alloc ?_ _)); exact BK419.out) hb); have n1_ := Aside0.mk (below_step (by repeat (first | (with_reducible first | exact HB.out | apply below_alloc | apply pw_below_drewN | apply below_drew1 | refine below_set ?_ GE419.out) | exact HB.out)) hb); clear BK419; clear HB; have BK419 := n0_; have HB := n1_; clear n0_ n1_; (try clear hb); (try clear hb2); (try clear hk); (try clear hi); obtain ⟨hcz11_0, hcz11_1, hcz11_2, hcz11_3, hcz11_4, hcz11_5, hcz11_6, hcz11_7, hfz11_0, hfz11_1, hfz11_2, hfz11_3, hfz11_4, hfz11_5, hfz11_6, hfz11_7⟩ := blk8_ BK419.out) | (go_at_call 74; (with_reducible refine (entrepotref10_node.calls a0_0 a0_1 a0_2 a0_3 a0_4 a0_5 _ _ l0_6 _ _ l0_7 a2 t421 _ ?side1 ?side2 ?side3 ?side4 A8.out).mono ?_); (case side1 => repeat (first | exact (Kd.C_below HR0_6.out HB.out) | (with_reducible refine Kd.C_alloc ?_ _) | (with_reducible refine Kd.C_drewN ?_ _) | (with_reducible refine Kd.C_drew ?_))); (case side2 => exact HC0_6.out); (case side3 => repeat (first | exact (Kd.C_below HR0_7.out HB.out) | (with_reducible refine Kd.C_alloc ?_ _) | (with_reducible refine Kd.C_drewN ?_ _) | (with_reducible refine Kd.C_drew ?_))); (case side4 => exact HC0_7.out); rintro e w12 ⟨rfl, hb⟩; have n0_ := Aside0.mk (blk_below (g := gb419) (o := .cells #[.string a0_0, .int .i64 a0_1, .int .i64 a0_2, .int .i64 a0_3, .int .i64 a0_4, .int .i64 a0_5, .slice A0_6 l0_6.length c0_6, .slice A0_7 l0_7.length c0_7] 46 (0, 0)) (by (with_reducible repeat (first | refine blk_drewN ?_ _ | refine blk_drew ?_ | refine blk_alloc ?_ _)); exact BK419.out) hb); have n1_ := Aside0.mk (below_step (by repeat (first | (with_reducible first | exact HB.out | apply below_alloc | apply pw_below_drewN | apply below_drew1 | refine below_set ?_ GE419.out) | exact HB.out)) hb); clear BK419; clear HB; have BK419 := n0_; have HB := n1_; clear n0_ n1_; (try clear hb); (try clear hb2); (try clear hk); (try clear hi)))
   go_meet
   case rel => exact ⟨_, (!t421), (by first | rfl | (simp; done) | (simp [*]; done)), H', ⟨by first | omega | exact Nat.le_refl _⟩, ⟨by (with_reducible repeat (first | refine blk_drewN ?_ _ | refine blk_drew ?_ | refine blk_alloc ?_ _)); exact BK419.out⟩, ⟨by repeat (first | (with_reducible first | exact HB.out | apply below_alloc | apply pw_below_drewN | apply below_drew1 | refine below_set ?_ GE419.out) | exact HB.out)⟩⟩
  ·replace c7 := Bool.eq_false_iff.mpr c7
   subst c7
   have H1 : (entrepotref10_Between.j0 k a1 a2 true a0_0 a0_1 a0_2 a0_3 a0_4 a0_5 l0_6 l0_7) = some (r1, r2) := by rw [if_neg (show ¬ (false = true) by decide)] at H; exact H
   clear H
   have H := H1
   clear H1
   have H' := Aside0.mk H
   clear H
   obtain ⟨hcz13_0, hcz13_1, hcz13_2, hcz13_3, hcz13_4, hcz13_5, hcz13_6, hcz13_7, hfz13_0, hfz13_1, hfz13_2, hfz13_3, hfz13_4, hfz13_5, hfz13_6, hfz13_7⟩ := blk8_ BK419.out
   go_wp2_with (first | ((with_reducible refine gate_callee (f := 74) rfl ?_); refine goesL_ (some 10) rfl rfl Try.func74 (by kernel_rfl) rfl #[.agg #[.string a0_0, .int .i64 a0_1, .int .i64 a0_2, .int .i64 a0_3, .int .i64 a0_4, .int .i64 a0_5, .slice A0_6 l0_6.length c0_6, .slice A0_7 l0_7.length c0_7], .int .i64 a1] rfl (by (try simp only [List.map_toArray, List.map_cons, List.map_nil]); first | done | rfl | (simp only [List.length_drop, List.length_take]; rfl)) ?_; (with_reducible refine (entrepotref10_node.calls a0_0 a0_1 a0_2 a0_3 a0_4 a0_5 _ _ l0_6 _ _ l0_7 a1 false _ ?side1 ?side2 ?side3 ?side4 A6.out).mono ?_); (case side1 => repeat (first | exact (Kd.C_below HR0_6.out HB.out) | (with_reducible refine Kd.C_alloc ?_ _) | (with_reducible refine Kd.C_drewN ?_ _) | (with_reducible refine Kd.C_drew ?_))); (case side2 => exact HC0_6.out); (case side3 => repeat (first | exact (Kd.C_below HR0_7.out HB.out) | (with_reducible refine Kd.C_alloc ?_ _) | (with_reducible refine Kd.C_drewN ?_ _) | (with_reducible refine Kd.C_drew ?_))); (case side4 => exact HC0_7.out); rintro e w14 ⟨rfl, hb⟩; refine ⟨_, rfl, ?_⟩; have n0_ := Aside0.mk (blk_below (g := gb419) (o := .cells #[.string a0_0, .int .i64 a0_1, .int .i64 a0_2, .int .i64 a0_3, .int .i64 a0_4, .int .i64 a0_5, .slice A0_6 l0_6.length c0_6, .slice A0_7 l0_7.length c0_7] 46 (0, 0)) (by (with_reducible repeat (first | refine blk_drewN ?_ _ | refine blk_drew ?_ | refine blk_alloc ?_ _)); exact BK419.out) hb); have n1_ := Aside0.mk (below_step (by repeat (first | (with_reducible first | exact HB.out | apply below_alloc | apply pw_below_drewN | apply below_drew1 | refine below_set ?_ GE419.out) | exact HB.out)) hb); clear BK419; clear HB; have BK419 := n0_; have HB := n1_; clear n0_ n1_; (try clear hb); (try clear hb2); (try clear hk); (try clear hi)))
   go_meet
   case rel => exact ⟨_, (true), (by first | rfl | (simp; done) | (simp [*]; done)), H', ⟨by first | omega | exact Nat.le_refl _⟩, ⟨by (with_reducible repeat (first | refine blk_drewN ?_ _ | refine blk_drew ?_ | refine blk_alloc ?_ _)); exact BK419.out⟩, ⟨by repeat (first | (with_reducible first | exact HB.out | apply below_alloc | apply pw_below_drewN | apply below_drew1 | refine below_set ?_ GE419.out) | exact HB.out)⟩⟩
 case rest =>
  clear HC4
  obtain ⟨kq, x17_3, rfl, HA, HJ3, BK419, HB⟩ := hcut
  cases kq with
  | zero => exact absurd HA.out (by simp [entrepotref10_Between.j0])
  | succ kj3 =>
   have H := HA.out
   clear HA
   simp only [entrepotref10_Between.j0] at H
   by_cases c15 : x17_3 = true
   ·subst c15
    have H1 : (some (0, 1)) = some (r1, r2) := by rw [if_pos rfl] at H; exact H
    clear H
    have H := H1
    clear H1
    simp only [Option.some.injEq, Prod.mk.injEq] at H
    obtain ⟨rfl, rfl⟩ := H
    go_wp2
    go_ret2
    exact ⟨by first | rfl | (simp [errW_none, errW_some] <;> rfl) | (simp [*, errW_none, errW_some] <;> rfl), by repeat (first | (with_reducible first | exact HB.out | apply below_alloc | apply pw_below_drewN | apply below_drew1 | refine below_set ?_ GE419.out) | exact HB.out)⟩
   ·replace c15 := Bool.eq_false_iff.mpr c15
    subst c15
    have H1 : (if a0_2 = 0 then (if 0 ≤ (wrap64 ((wrap64 (a1 * (l0_6.length : Int))) + a2)) then (if (wrap64 ((wrap64 (a1 * (l0_6.length : Int))) + a2)) < (l0_7.length : Int) then (some (rd l0_7 (wrap64 ((wrap64 (a1 * (l0_6.length : Int))) + a2)), 0)) else (none)) else (none)) else (if 0 ≤ a2 then (if a2 < (l0_6.length : Int) then (if 0 ≤ a1 then (if a1 < (l0_6.length : Int) then ((entrepotref06_Dist.f kj3 a0_2 a0_3 (wrap64 (((rd_T77 l0_6 a2).f0) - ((rd_T77 l0_6 a1).f0))) (wrap64 (((rd_T77 l0_6 a2).f1) - ((rd_T77 l0_6 a1).f1)))).bind fun bt427 => (some (bt427.1, bt427.2))) else (none)) else (none)) else (none)) else (none))) = some (r1, r2) := by rw [if_neg (show ¬ (false = true) by decide)] at H; exact H
    clear H
    have H := H1
    clear H1
    by_cases c16 : a0_2 = 0
    ·rw [if_pos c16] at H
     have c16b0 : (a0_2 == 0) = true := beq_iff_eq.mpr c16
     have c16b1 : (a0_2 != 0) = false := bne_eq_false_iff_eq.mpr c16
     clear c16
     obtain ⟨ji17, hji17⟩ : ∃ j_ : Int, (wrap64 ((wrap64 (a1 * (l0_6.length : Int))) + a2)) = j_ := ⟨_, rfl⟩
     replace H : (if 0 ≤ (ji17) then (if (ji17) < (l0_7.length : Int) then (some (rd l0_7 (ji17), 0)) else (none)) else (none)) = some (r1, r2) := by first | (rw [hji17] at H; exact H) | (simp only [hji17] at H ⊢; exact H)
     have hji17w : (IntKind.i64.wrap ((wrap64 (a1 * (l0_6.length : Int))) + a2)) = ji17 := (i64_w _).trans hji17
     by_cases c18 : 0 ≤ (ji17)
     ·rw [if_pos c18] at H
      have c18b0 : decide (0 ≤ (ji17)) = true := decide_eq_true c18
      clear c18
      by_cases c19 : (ji17) < (l0_7.length : Int)
      ·rw [if_pos c19] at H
       have c19b0 : decide ((ji17) < (l0_7.length : Int)) = true := decide_eq_true c19
       clear c19
       simp only [Option.some.injEq, Prod.mk.injEq] at H
       obtain ⟨rfl, rfl⟩ := H
       obtain ⟨hcz20_0, hcz20_1, hcz20_2, hcz20_3, hcz20_4, hcz20_5, hcz20_6, hcz20_7, hfz20_0, hfz20_1, hfz20_2, hfz20_3, hfz20_4, hfz20_5, hfz20_6, hfz20_7⟩ := blk8_ BK419.out
       have p422 : 0 ≤ ((ji17) : Int) := of_decide_eq_true (by first | (with_reducible assumption) | assumption)
       have q422 : (ji17) < (l0_7.length : Int) := of_decide_eq_true (by first | (with_reducible assumption) | assumption)
       obtain ⟨ad422, e422, hx422_0⟩ := Kd.at_int HR0_7.out (ji17) p422 q422
       cases e422
       replace hx422_0 := (HB.out.cell (World.block_lt_of_cell? w _ hx422_0)).trans hx422_0
       replace p422 := eq_true p422
       replace q422 := eq_true q422
       go_wp2
       go_ret2
       exact ⟨by first | rfl | (simp [errW_none, errW_some] <;> rfl) | (simp only [← hji17]; first | rfl | (simp [errW_none, errW_some] <;> rfl)) | (simp [*, errW_none, errW_some] <;> rfl), by repeat (first | (with_reducible first | exact HB.out | apply below_alloc | apply pw_below_drewN | apply below_drew1 | refine below_set ?_ GE419.out) | exact HB.out)⟩
      ·rw [if_neg c19] at H
       exact absurd H (by simp)
     ·rw [if_neg c18] at H
      exact absurd H (by simp)
    ·rw [if_neg c16] at H
     have c16b0 : (a0_2 == 0) = false := beq_eq_false_iff_ne.mpr c16
     have c16b1 : (a0_2 != 0) = true := bne_iff_ne.mpr c16
     by_cases c21 : 0 ≤ a2
     ·rw [if_pos c21] at H
      have c21b0 : decide (0 ≤ a2) = true := decide_eq_true c21
      clear c21
      by_cases c22 : a2 < (l0_6.length : Int)
      ·rw [if_pos c22] at H
       have c22b0 : decide (a2 < (l0_6.length : Int)) = true := decide_eq_true c22
       clear c22
       by_cases c23 : 0 ≤ a1
       ·rw [if_pos c23] at H
        have c23b0 : decide (0 ≤ a1) = true := decide_eq_true c23
        clear c23
        by_cases c24 : a1 < (l0_6.length : Int)
        ·rw [if_pos c24] at H
         have c24b0 : decide (a1 < (l0_6.length : Int)) = true := decide_eq_true c24
         clear c24
         replace H := Option.bind_eq_some_iff.mp H
         obtain ⟨⟨t427, t428⟩, A250, H⟩ := H
         replace H : (some (t427, t428)) = some (r1, r2) := H
         have A25 := Aside0.mk A250
         clear A250
         simp only [Option.some.injEq, Prod.mk.injEq] at H
         obtain ⟨rfl, rfl⟩ := H
         obtain ⟨hcz26_0, hcz26_1, hcz26_2, hcz26_3, hcz26_4, hcz26_5, hcz26_6, hcz26_7, hfz26_0, hfz26_1, hfz26_2, hfz26_3, hfz26_4, hfz26_5, hfz26_6, hfz26_7⟩ := blk8_ BK419.out
         try go_wp2
         have n0_ := Aside0.mk (blk_drew BK419.out)
         have n1_ := Aside0.mk (below_drew1 HB.out)
         clear BK419
         clear HB
         have BK419 := n0_
         have HB := n1_
         clear n0_ n1_
         have p423 : 0 ≤ (a2 : Int) := of_decide_eq_true (by first | (with_reducible assumption) | assumption)
         have q423 : a2 < (l0_6.length : Int) := of_decide_eq_true (by first | (with_reducible assumption) | assumption)
         obtain ⟨ad423, e423, hx423_0, hx423_1, hx423_2, hx423_3, hx423_4, hx423_5, hx423_6⟩ := at_T77 HR0_6.out a2 p423 q423
         have hw423_6 := hx423_6
         have hw423_5 := hx423_5
         have hw423_4 := hx423_4
         have hw423_3 := hx423_3
         have hw423_2 := hx423_2
         have hw423_1 := hx423_1
         have hw423_0 := hx423_0
         cases e423
         replace hx423_0 := (HB.out.cell (World.block_lt_of_cell? w _ hx423_0)).trans hx423_0
         replace hx423_1 := (HB.out.cell (World.block_lt_of_cell? w _ hx423_1)).trans hx423_1
         replace hx423_2 := (HB.out.cell (World.block_lt_of_cell? w _ hx423_2)).trans hx423_2
         replace hx423_3 := (HB.out.cell (World.block_lt_of_cell? w _ hx423_3)).trans hx423_3
         replace hx423_4 := (HB.out.cell (World.block_lt_of_cell? w _ hx423_4)).trans hx423_4
         replace hx423_5 := (HB.out.cell (World.block_lt_of_cell? w _ hx423_5)).trans hx423_5
         replace hx423_6 := (HB.out.cell (World.block_lt_of_cell? w _ hx423_6)).trans hx423_6
         replace p423 := eq_true p423
         replace q423 := eq_true q423
         have p424 : 0 ≤ (a1 : Int) := of_decide_eq_true (by first | (with_reducible assumption) | assumption)
         have q424 : a1 < (l0_6.length : Int) := of_decide_eq_true (by first | (with_reducible assumption) | assumption)
         obtain ⟨ad424, e424, hx424_0, hx424_1, hx424_2, hx424_3, hx424_4, hx424_5, hx424_6⟩ := at_T77 HR0_6.out a1 p424 q424
         have hw424_6 := hx424_6
         have hw424_5 := hx424_5
         have hw424_4 := hx424_4
         have hw424_3 := hx424_3
         have hw424_2 := hx424_2
         have hw424_1 := hx424_1
         have hw424_0 := hx424_0
         obtain rfl : ad423 = ad424 := (by injection e424)
         replace hx424_0 := (HB.out.cell (World.block_lt_of_cell? w _ hx424_0)).trans hx424_0
         replace hx424_1 := (HB.out.cell (World.block_lt_of_cell? w _ hx424_1)).trans hx424_1
         replace hx424_2 := (HB.out.cell (World.block_lt_of_cell? w _ hx424_2)).trans hx424_2
         replace hx424_3 := (HB.out.cell (World.block_lt_of_cell? w _ hx424_3)).trans hx424_3
         replace hx424_4 := (HB.out.cell (World.block_lt_of_cell? w _ hx424_4)).trans hx424_4
         replace hx424_5 := (HB.out.cell (World.block_lt_of_cell? w _ hx424_5)).trans hx424_5
         replace hx424_6 := (HB.out.cell (World.block_lt_of_cell? w _ hx424_6)).trans hx424_6
         replace p424 := eq_true p424
         replace q424 := eq_true q424
         have p425 : 0 ≤ (a2 : Int) := of_decide_eq_true (by first | (with_reducible assumption) | assumption)
         have q425 : a2 < (l0_6.length : Int) := of_decide_eq_true (by first | (with_reducible assumption) | assumption)
         obtain ⟨ad425, e425, hx425_0, hx425_1, hx425_2, hx425_3, hx425_4, hx425_5, hx425_6⟩ := at_T77 HR0_6.out a2 p425 q425
         have hw425_6 := hx425_6
         have hw425_5 := hx425_5
         have hw425_4 := hx425_4
         have hw425_3 := hx425_3
         have hw425_2 := hx425_2
         have hw425_1 := hx425_1
         have hw425_0 := hx425_0
         obtain rfl : ad423 = ad425 := (by injection e425)
         replace hx425_0 := (HB.out.cell (World.block_lt_of_cell? w _ hx425_0)).trans hx425_0
         replace hx425_1 := (HB.out.cell (World.block_lt_of_cell? w _ hx425_1)).trans hx425_1
         replace hx425_2 := (HB.out.cell (World.block_lt_of_cell? w _ hx425_2)).trans hx425_2
         replace hx425_3 := (HB.out.cell (World.block_lt_of_cell? w _ hx425_3)).trans hx425_3
         replace hx425_4 := (HB.out.cell (World.block_lt_of_cell? w _ hx425_4)).trans hx425_4
         replace hx425_5 := (HB.out.cell (World.block_lt_of_cell? w _ hx425_5)).trans hx425_5
         replace hx425_6 := (HB.out.cell (World.block_lt_of_cell? w _ hx425_6)).trans hx425_6
         replace p425 := eq_true p425
         replace q425 := eq_true q425
         have p426 : 0 ≤ (a1 : Int) := of_decide_eq_true (by first | (with_reducible assumption) | assumption)
         have q426 : a1 < (l0_6.length : Int) := of_decide_eq_true (by first | (with_reducible assumption) | assumption)
         obtain ⟨ad426, e426, hx426_0, hx426_1, hx426_2, hx426_3, hx426_4, hx426_5, hx426_6⟩ := at_T77 HR0_6.out a1 p426 q426
         have hw426_6 := hx426_6
         have hw426_5 := hx426_5
         have hw426_4 := hx426_4
         have hw426_3 := hx426_3
         have hw426_2 := hx426_2
         have hw426_1 := hx426_1
         have hw426_0 := hx426_0
         obtain rfl : ad423 = ad426 := (by injection e426)
         replace hx426_0 := (HB.out.cell (World.block_lt_of_cell? w _ hx426_0)).trans hx426_0
         replace hx426_1 := (HB.out.cell (World.block_lt_of_cell? w _ hx426_1)).trans hx426_1
         replace hx426_2 := (HB.out.cell (World.block_lt_of_cell? w _ hx426_2)).trans hx426_2
         replace hx426_3 := (HB.out.cell (World.block_lt_of_cell? w _ hx426_3)).trans hx426_3
         replace hx426_4 := (HB.out.cell (World.block_lt_of_cell? w _ hx426_4)).trans hx426_4
         replace hx426_5 := (HB.out.cell (World.block_lt_of_cell? w _ hx426_5)).trans hx426_5
         replace hx426_6 := (HB.out.cell (World.block_lt_of_cell? w _ hx426_6)).trans hx426_6
         replace p426 := eq_true p426
         replace q426 := eq_true q426
         refine start_ (n := 35) (S := fun w' => w'.cell? ⟨gb419, 0, none⟩ = some (.string a0_0) ∧ w'.cell? ⟨gb419, 1, none⟩ = some (.int .i64 a0_1) ∧ w'.cell? ⟨gb419, 2, none⟩ = some (.int .i64 a0_2) ∧ w'.cell? ⟨gb419, 3, none⟩ = some (.int .i64 a0_3) ∧ w'.cell? ⟨gb419, 4, none⟩ = some (.int .i64 a0_4) ∧ w'.cell? ⟨gb419, 5, none⟩ = some (.int .i64 a0_5) ∧ w'.cell? ⟨gb419, 6, none⟩ = some (.slice (some ad423) l0_6.length c0_6) ∧ w'.cell? ⟨gb419, 7, none⟩ = some (.slice A0_7 l0_7.length c0_7) ∧ w'.cell? (ad423.add ((a2).toNat * 7)) = some (.int .i64 ((rd_T77 l0_6 a2).f0)) ∧ w'.cell? ⟨(ad423.add ((a2).toNat * 7)).block, (ad423.add ((a2).toNat * 7)).off + 1, none⟩ = some (.int .i64 ((rd_T77 l0_6 a2).f1)) ∧ w'.cell? ⟨(ad423.add ((a2).toNat * 7)).block, (ad423.add ((a2).toNat * 7)).off + 2, none⟩ = some (.int .i64 ((rd_T77 l0_6 a2).f2)) ∧ w'.cell? ⟨(ad423.add ((a2).toNat * 7)).block, (ad423.add ((a2).toNat * 7)).off + 3, none⟩ = some (.int .i64 ((rd_T77 l0_6 a2).f3)) ∧ w'.cell? ⟨(ad423.add ((a2).toNat * 7)).block, (ad423.add ((a2).toNat * 7)).off + 4, none⟩ = some (.int .i64 ((rd_T77 l0_6 a2).f4)) ∧ w'.cell? ⟨(ad423.add ((a2).toNat * 7)).block, (ad423.add ((a2).toNat * 7)).off + 5, none⟩ = some (.int .i64 ((rd_T77 l0_6 a2).f5)) ∧ w'.cell? ⟨(ad423.add ((a2).toNat * 7)).block, (ad423.add ((a2).toNat * 7)).off + 6, none⟩ = some (.int .i64 ((rd_T77 l0_6 a2).f6)) ∧ w'.cell? (ad423.add ((a1).toNat * 7)) = some (.int .i64 ((rd_T77 l0_6 a1).f0)) ∧ w'.cell? ⟨(ad423.add ((a1).toNat * 7)).block, (ad423.add ((a1).toNat * 7)).off + 1, none⟩ = some (.int .i64 ((rd_T77 l0_6 a1).f1)) ∧ w'.cell? ⟨(ad423.add ((a1).toNat * 7)).block, (ad423.add ((a1).toNat * 7)).off + 2, none⟩ = some (.int .i64 ((rd_T77 l0_6 a1).f2)) ∧ w'.cell? ⟨(ad423.add ((a1).toNat * 7)).block, (ad423.add ((a1).toNat * 7)).off + 3, none⟩ = some (.int .i64 ((rd_T77 l0_6 a1).f3)) ∧ w'.cell? ⟨(ad423.add ((a1).toNat * 7)).block, (ad423.add ((a1).toNat * 7)).off + 4, none⟩ = some (.int .i64 ((rd_T77 l0_6 a1).f4)) ∧ w'.cell? ⟨(ad423.add ((a1).toNat * 7)).block, (ad423.add ((a1).toNat * 7)).off + 5, none⟩ = some (.int .i64 ((rd_T77 l0_6 a1).f5)) ∧ w'.cell? ⟨(ad423.add ((a1).toNat * 7)).block, (ad423.add ((a1).toNat * 7)).off + 6, none⟩ = some (.int .i64 ((rd_T77 l0_6 a1).f6)) ∧ w'.cell? (ad423.add ((a2).toNat * 7)) = some (.int .i64 ((rd_T77 l0_6 a2).f0)) ∧ w'.cell? ⟨(ad423.add ((a2).toNat * 7)).block, (ad423.add ((a2).toNat * 7)).off + 1, none⟩ = some (.int .i64 ((rd_T77 l0_6 a2).f1)) ∧ w'.cell? ⟨(ad423.add ((a2).toNat * 7)).block, (ad423.add ((a2).toNat * 7)).off + 2, none⟩ = some (.int .i64 ((rd_T77 l0_6 a2).f2)) ∧ w'.cell? ⟨(ad423.add ((a2).toNat * 7)).block, (ad423.add ((a2).toNat * 7)).off + 3, none⟩ = some (.int .i64 ((rd_T77 l0_6 a2).f3)) ∧ w'.cell? ⟨(ad423.add ((a2).toNat * 7)).block, (ad423.add ((a2).toNat * 7)).off + 4, none⟩ = some (.int .i64 ((rd_T77 l0_6 a2).f4)) ∧ w'.cell? ⟨(ad423.add ((a2).toNat * 7)).block, (ad423.add ((a2).toNat * 7)).off + 5, none⟩ = some (.int .i64 ((rd_T77 l0_6 a2).f5)) ∧ w'.cell? ⟨(ad423.add ((a2).toNat * 7)).block, (ad423.add ((a2).toNat * 7)).off + 6, none⟩ = some (.int .i64 ((rd_T77 l0_6 a2).f6)) ∧ w'.cell? (ad423.add ((a1).toNat * 7)) = some (.int .i64 ((rd_T77 l0_6 a1).f0)) ∧ w'.cell? ⟨(ad423.add ((a1).toNat * 7)).block, (ad423.add ((a1).toNat * 7)).off + 1, none⟩ = some (.int .i64 ((rd_T77 l0_6 a1).f1)) ∧ w'.cell? ⟨(ad423.add ((a1).toNat * 7)).block, (ad423.add ((a1).toNat * 7)).off + 2, none⟩ = some (.int .i64 ((rd_T77 l0_6 a1).f2)) ∧ w'.cell? ⟨(ad423.add ((a1).toNat * 7)).block, (ad423.add ((a1).toNat * 7)).off + 3, none⟩ = some (.int .i64 ((rd_T77 l0_6 a1).f3)) ∧ w'.cell? ⟨(ad423.add ((a1).toNat * 7)).block, (ad423.add ((a1).toNat * 7)).off + 4, none⟩ = some (.int .i64 ((rd_T77 l0_6 a1).f4)) ∧ w'.cell? ⟨(ad423.add ((a1).toNat * 7)).block, (ad423.add ((a1).toNat * 7)).off + 5, none⟩ = some (.int .i64 ((rd_T77 l0_6 a1).f5)) ∧ w'.cell? ⟨(ad423.add ((a1).toNat * 7)).block, (ad423.add ((a1).toNat * 7)).off + 6, none⟩ = some (.int .i64 ((rd_T77 l0_6 a1).f6))) (ds := []) #[false, false, false, false, false, false, false, false, false, false, false, false, false, false, false, false, false, false, false, false, false, false, false, false, false, false, false, false, false, false, false, false, false, false, false] (by kernel_rfl) rfl rfl ⟨(blk_cell BK419.out 0).trans rfl, (blk_cell BK419.out 1).trans rfl, (blk_cell BK419.out 2).trans rfl, (blk_cell BK419.out 3).trans rfl, (blk_cell BK419.out 4).trans rfl, (blk_cell BK419.out 5).trans rfl, (blk_cell BK419.out 6).trans rfl, (blk_cell BK419.out 7).trans rfl, ((HB.out.cell (World.block_lt_of_cell? w _ hw423_0)).trans hw423_0), ((HB.out.cell (World.block_lt_of_cell? w _ hw423_1)).trans hw423_1), ((HB.out.cell (World.block_lt_of_cell? w _ hw423_2)).trans hw423_2), ((HB.out.cell (World.block_lt_of_cell? w _ hw423_3)).trans hw423_3), ((HB.out.cell (World.block_lt_of_cell? w _ hw423_4)).trans hw423_4), ((HB.out.cell (World.block_lt_of_cell? w _ hw423_5)).trans hw423_5), ((HB.out.cell (World.block_lt_of_cell? w _ hw423_6)).trans hw423_6), ((HB.out.cell (World.block_lt_of_cell? w _ hw424_0)).trans hw424_0), ((HB.out.cell (World.block_lt_of_cell? w _ hw424_1)).trans hw424_1), ((HB.out.cell (World.block_lt_of_cell? w _ hw424_2)).trans hw424_2), ((HB.out.cell (World.block_lt_of_cell? w _ hw424_3)).trans hw424_3), ((HB.out.cell (World.block_lt_of_cell? w _ hw424_4)).trans hw424_4), ((HB.out.cell (World.block_lt_of_cell? w _ hw424_5)).trans hw424_5), ((HB.out.cell (World.block_lt_of_cell? w _ hw424_6)).trans hw424_6), ((HB.out.cell (World.block_lt_of_cell? w _ hw425_0)).trans hw425_0), ((HB.out.cell (World.block_lt_of_cell? w _ hw425_1)).trans hw425_1), ((HB.out.cell (World.block_lt_of_cell? w _ hw425_2)).trans hw425_2), ((HB.out.cell (World.block_lt_of_cell? w _ hw425_3)).trans hw425_3), ((HB.out.cell (World.block_lt_of_cell? w _ hw425_4)).trans hw425_4), ((HB.out.cell (World.block_lt_of_cell? w _ hw425_5)).trans hw425_5), ((HB.out.cell (World.block_lt_of_cell? w _ hw425_6)).trans hw425_6), ((HB.out.cell (World.block_lt_of_cell? w _ hw426_0)).trans hw426_0), ((HB.out.cell (World.block_lt_of_cell? w _ hw426_1)).trans hw426_1), ((HB.out.cell (World.block_lt_of_cell? w _ hw426_2)).trans hw426_2), ((HB.out.cell (World.block_lt_of_cell? w _ hw426_3)).trans hw426_3), ((HB.out.cell (World.block_lt_of_cell? w _ hw426_4)).trans hw426_4), ((HB.out.cell (World.block_lt_of_cell? w _ hw426_5)).trans hw426_5), ((HB.out.cell (World.block_lt_of_cell? w _ hw426_6)).trans hw426_6)⟩ (fun hHeld => ?_); refine with_tabW entrepotref10_Between.tab5 entrepotref10_Between.bits5 (fun HT_ HW_ => ?_)
         generalize wc.drew = w27 at BK419 HB hx423_0 hx423_1 hx423_2 hx423_3 hx423_4 hx423_5 hx423_6 hx424_0 hx424_1 hx424_2 hx424_3 hx424_4 hx424_5 hx424_6 hx425_0 hx425_1 hx425_2 hx425_3 hx425_4 hx425_5 hx425_6 hx426_0 hx426_1 hx426_2 hx426_3 hx426_4 hx426_5 hx426_6 hHeld ⊢
         refine pure_ (i := 0) (N := some 32) (v := ?_) (a' := ?_) #[true, false, false, false, false, false, false, false, false, false, false, false, false, false, false, false, false, false, false, false, false, false, false, false, false, false, false, false, false, false, false, false, false, false, false] rfl rfl (any_of HT_.out (by kernel_rfl)) (fun _ _ _ h => h) (Or.inl ⟨by rfl, ?_⟩) ?_ ?_
         rotate_left
         ·intro w'
          go_simp
          with_reducible rfl
         rotate_left
         ·simp only [Act.put, z1_, z2_, z3_, i64_w, i32_w]
          rfl
         refine pure_ (i := 2) (N := some 34) (v := ?_) (a' := ?_) #[true, false, true, false, false, false, false, false, false, false, false, false, false, false, false, false, false, false, false, false, false, false, false, false, false, false, false, false, false, false, false, false, false, false, false] rfl rfl (any_of HT_.out (by kernel_rfl)) (fun _ _ _ h => h) (Or.inl ⟨by rfl, ?_⟩) ?_ ?_
         rotate_left
         ·intro w'
          go_simp
          with_reducible rfl
         rotate_left
         ·simp only [Act.put, z1_, z2_, z3_, i64_w, i32_w]
          rfl
         refine pure_ (i := 4) (N := some 36) (v := ?_) (a' := ?_) #[true, false, true, false, true, false, false, false, false, false, false, false, false, false, false, false, false, false, false, false, false, false, false, false, false, false, false, false, false, false, false, false, false, false, false] rfl rfl (any_of HT_.out (by kernel_rfl)) (fun _ _ _ h => h) (Or.inl ⟨by rfl, ?_⟩) ?_ ?_
         rotate_left
         ·intro w'
          go_simp
          with_reducible rfl
         rotate_left
         ·simp only [Act.put, z1_, z2_, z3_, i64_w, i32_w]
          rfl
         refine pure_ (i := 6) (N := some 38) (v := ?_) (a' := ?_) #[true, false, true, false, true, false, true, false, false, false, false, false, false, false, false, false, false, false, false, false, false, false, false, false, false, false, false, false, false, false, false, false, false, false, false] rfl rfl (any_of HT_.out (by kernel_rfl)) (fun _ _ _ h => h) (Or.inl ⟨by rfl, ?_⟩) ?_ ?_
         rotate_left
         ·intro w'
          go_simp
          with_reducible rfl
         rotate_left
         ·simp only [Act.put, z1_, z2_, z3_, i64_w, i32_w]
          rfl
         refine pure_ (i := 10) (N := some 42) (v := ?_) (a' := ?_) #[true, false, true, false, true, false, true, false, false, false, true, false, false, false, false, false, false, false, false, false, false, false, false, false, false, false, false, false, false, false, false, false, false, false, false] rfl rfl (any_of HT_.out (by kernel_rfl)) (fun _ _ _ h => h) (Or.inl ⟨by rfl, ?_⟩) ?_ ?_
         rotate_left
         ·intro w'
          go_simp
          with_reducible rfl
         rotate_left
         ·simp only [Act.put, z1_, z2_, z3_, i64_w, i32_w]
          rfl
         refine pure_ (i := 12) (N := some 44) (v := ?_) (a' := ?_) #[true, false, true, false, true, false, true, false, false, false, true, false, true, false, false, false, false, false, false, false, false, false, false, false, false, false, false, false, false, false, false, false, false, false, false] rfl rfl (any_of HT_.out (by kernel_rfl)) (fun _ _ _ h => h) (Or.inl ⟨by rfl, ?_⟩) ?_ ?_
         rotate_left
         ·intro w'
          go_simp
          with_reducible rfl
         rotate_left
         ·simp only [Act.put, z1_, z2_, z3_, i64_w, i32_w]
          rfl
         refine pure_ (i := 17) (N := some 49) (v := ?_) (a' := ?_) #[true, false, true, false, true, false, true, false, false, false, true, false, true, false, false, false, false, true, false, false, false, false, false, false, false, false, false, false, false, false, false, false, false, false, false] rfl rfl (any_of HT_.out (by kernel_rfl)) (fun _ _ _ h => h) (Or.inl ⟨by rfl, ?_⟩) ?_ ?_
         rotate_left
         ·intro w'
          go_simp
          with_reducible rfl
         rotate_left
         ·simp only [Act.put, z1_, z2_, z3_, i64_w, i32_w]
          rfl
         refine pure_ (i := 19) (N := some 51) (v := ?_) (a' := ?_) #[true, false, true, false, true, false, true, false, false, false, true, false, true, false, false, false, false, true, false, true, false, false, false, false, false, false, false, false, false, false, false, false, false, false, false] rfl rfl (any_of HT_.out (by kernel_rfl)) (fun _ _ _ h => h) (Or.inl ⟨by rfl, ?_⟩) ?_ ?_
         rotate_left
         ·intro w'
          go_simp
          with_reducible rfl
         rotate_left
         ·simp only [Act.put, z1_, z2_, z3_, i64_w, i32_w]
          rfl
         refine pure_ (i := 23) (N := some 55) (v := ?_) (a' := ?_) #[true, false, true, false, true, false, true, false, false, false, true, false, true, false, false, false, false, true, false, true, false, false, false, true, false, false, false, false, false, false, false, false, false, false, false] rfl rfl (any_of HT_.out (by kernel_rfl)) (fun _ _ _ h => h) (Or.inl ⟨by rfl, ?_⟩) ?_ ?_
         rotate_left
         ·intro w'
          go_simp
          with_reducible rfl
         rotate_left
         ·simp only [Act.put, z1_, z2_, z3_, i64_w, i32_w]
          rfl
         refine pure_ (i := 25) (N := some 57) (v := ?_) (a' := ?_) #[true, false, true, false, true, false, true, false, false, false, true, false, true, false, false, false, false, true, false, true, false, false, false, true, false, true, false, false, false, false, false, false, false, false, false] rfl rfl (any_of HT_.out (by kernel_rfl)) (fun _ _ _ h => h) (Or.inl ⟨by rfl, ?_⟩) ?_ ?_
         rotate_left
         ·intro w'
          go_simp
          with_reducible rfl
         rotate_left
         ·simp only [Act.put, z1_, z2_, z3_, i64_w, i32_w]
          rfl
         refine take_ (i := 1) (N := some 33) (v := ?_) (a' := ?_) #[true, true, true, false, true, false, true, false, false, false, true, false, true, false, false, false, false, true, false, true, false, false, false, true, false, true, false, false, false, false, false, false, false, false, false] rfl rfl (take_ofW HT_.out HW_.out (by kernel_rfl)) (fun _ _ _ h => h) (Or.inl ⟨by rfl, ?_⟩) hHeld ?_ ?_
         rotate_left
         ·rintro w' ⟨s0, s1, s2, s3, s4, s5, s6, s7, s8, s9, s10, s11, s12, s13, s14, s15, s16, s17, s18, s19, s20, s21, s22, s23, s24, s25, s26, s27, s28, s29, s30, s31, s32, s33, s34, s35⟩
          go_simp
          with_reducible rfl
         rotate_left
         ·simp only [Act.put, z1_, z2_, z3_, i64_w, i32_w]
          rfl
         refine take_ (i := 3) (N := some 35) (v := ?_) (a' := ?_) #[true, true, true, true, true, false, true, false, false, false, true, false, true, false, false, false, false, true, false, true, false, false, false, true, false, true, false, false, false, false, false, false, false, false, false] rfl rfl (take_ofW HT_.out HW_.out (by kernel_rfl)) (fun _ _ _ h => h) (Or.inl ⟨by rfl, ?_⟩) hHeld ?_ ?_
         rotate_left
         ·rintro w' ⟨s0, s1, s2, s3, s4, s5, s6, s7, s8, s9, s10, s11, s12, s13, s14, s15, s16, s17, s18, s19, s20, s21, s22, s23, s24, s25, s26, s27, s28, s29, s30, s31, s32, s33, s34, s35⟩
          go_simp
          with_reducible rfl
         rotate_left
         ·simp only [Act.put, z1_, z2_, z3_, i64_w, i32_w]
          rfl
         refine take_ (i := 5) (N := some 37) (v := ?_) (a' := ?_) #[true, true, true, true, true, true, true, false, false, false, true, false, true, false, false, false, false, true, false, true, false, false, false, true, false, true, false, false, false, false, false, false, false, false, false] rfl rfl (take_ofW HT_.out HW_.out (by kernel_rfl)) (fun _ _ _ h => h) (Or.inl ⟨by rfl, ?_⟩) hHeld ?_ ?_
         rotate_left
         ·rintro w' ⟨s0, s1, s2, s3, s4, s5, s6, s7, s8, s9, s10, s11, s12, s13, s14, s15, s16, s17, s18, s19, s20, s21, s22, s23, s24, s25, s26, s27, s28, s29, s30, s31, s32, s33, s34, s35⟩
          go_simp
          with_reducible rfl
         rotate_left
         ·simp only [Act.put, z1_, z2_, z3_, i64_w, i32_w]
          rfl
         refine pure_ (i := 7) (N := some 39) (v := ?_) (a' := ?_) #[true, true, true, true, true, true, true, true, false, false, true, false, true, false, false, false, false, true, false, true, false, false, false, true, false, true, false, false, false, false, false, false, false, false, false] rfl rfl (any_of HT_.out (by kernel_rfl)) (fun _ _ _ h => h) (Or.inl ⟨by rfl, ?_⟩) ?_ ?_
         rotate_left
         ·intro w'
          go_simp
          with_reducible rfl
         rotate_left
         ·simp only [Act.put, z1_, z2_, z3_, i64_w, i32_w]
          rfl
         refine pure_ (i := 8) (N := some 40) (v := ?_) (a' := ?_) #[true, true, true, true, true, true, true, true, true, false, true, false, true, false, false, false, false, true, false, true, false, false, false, true, false, true, false, false, false, false, false, false, false, false, false] rfl rfl (any_of HT_.out (by kernel_rfl)) (fun _ _ _ h => h) (Or.inl ⟨by rfl, ?_⟩) ?_ ?_
         rotate_left
         ·intro w'
          go_simp
          with_reducible rfl
         rotate_left
         ·simp only [Act.put, z1_, z2_, z3_, i64_w, i32_w]
          rfl
         refine take_ (i := 9) (N := some 41) (v := ?_) (a' := ?_) #[true, true, true, true, true, true, true, true, true, true, true, false, true, false, false, false, false, true, false, true, false, false, false, true, false, true, false, false, false, false, false, false, false, false, false] rfl rfl (take_ofW HT_.out HW_.out (by kernel_rfl)) (fun _ _ _ h => h) (Or.inl ⟨by rfl, ?_⟩) hHeld ?_ ?_
         rotate_left
         ·rintro w' ⟨s0, s1, s2, s3, s4, s5, s6, s7, s8, s9, s10, s11, s12, s13, s14, s15, s16, s17, s18, s19, s20, s21, s22, s23, s24, s25, s26, s27, s28, s29, s30, s31, s32, s33, s34, s35⟩
          go_simp
          with_reducible rfl
         rotate_left
         ·simp only [Act.put, z1_, z2_, z3_, i64_w, i32_w]
          rfl
         refine take_ (i := 11) (N := some 43) (v := ?_) (a' := ?_) #[true, true, true, true, true, true, true, true, true, true, true, true, true, false, false, false, false, true, false, true, false, false, false, true, false, true, false, false, false, false, false, false, false, false, false] rfl rfl (take_ofW HT_.out HW_.out (by kernel_rfl)) (fun _ _ _ h => h) (Or.inl ⟨by rfl, ?_⟩) hHeld ?_ ?_
         rotate_left
         ·rintro w' ⟨s0, s1, s2, s3, s4, s5, s6, s7, s8, s9, s10, s11, s12, s13, s14, s15, s16, s17, s18, s19, s20, s21, s22, s23, s24, s25, s26, s27, s28, s29, s30, s31, s32, s33, s34, s35⟩
          go_simp
          with_reducible rfl
         rotate_left
         ·simp only [Act.put, z1_, z2_, z3_, i64_w, i32_w]
          rfl
         refine pure_ (i := 13) (N := some 45) (v := ?_) (a' := ?_) #[true, true, true, true, true, true, true, true, true, true, true, true, true, true, false, false, false, true, false, true, false, false, false, true, false, true, false, false, false, false, false, false, false, false, false] rfl rfl (any_of HT_.out (by kernel_rfl)) (fun _ _ _ h => h) (Or.inl ⟨by rfl, ?_⟩) ?_ ?_
         rotate_left
         ·intro w'
          go_simp
          with_reducible rfl
         rotate_left
         ·simp only [Act.put, z1_, z2_, z3_, i64_w, i32_w]
          rfl
         refine pure_ (i := 14) (N := some 46) (v := ?_) (a' := ?_) #[true, true, true, true, true, true, true, true, true, true, true, true, true, true, true, false, false, true, false, true, false, false, false, true, false, true, false, false, false, false, false, false, false, false, false] rfl rfl (any_of HT_.out (by kernel_rfl)) (fun _ _ _ h => h) (Or.inl ⟨by rfl, ?_⟩) ?_ ?_
         rotate_left
         ·intro w'
          go_simp
          with_reducible rfl
         rotate_left
         ·simp only [Act.put, z1_, z2_, z3_, i64_w, i32_w]
          rfl
         refine take_ (i := 15) (N := some 47) (v := ?_) (a' := ?_) #[true, true, true, true, true, true, true, true, true, true, true, true, true, true, true, true, false, true, false, true, false, false, false, true, false, true, false, false, false, false, false, false, false, false, false] rfl rfl (take_ofW HT_.out HW_.out (by kernel_rfl)) (fun _ _ _ h => h) (Or.inl ⟨by rfl, ?_⟩) hHeld ?_ ?_
         rotate_left
         ·rintro w' ⟨s0, s1, s2, s3, s4, s5, s6, s7, s8, s9, s10, s11, s12, s13, s14, s15, s16, s17, s18, s19, s20, s21, s22, s23, s24, s25, s26, s27, s28, s29, s30, s31, s32, s33, s34, s35⟩
          go_simp
          with_reducible rfl
         rotate_left
         ·simp only [Act.put, z1_, z2_, z3_, i64_w, i32_w]
          rfl
         refine pure_ (i := 16) (N := some 48) (v := ?_) (a' := ?_) #[true, true, true, true, true, true, true, true, true, true, true, true, true, true, true, true, true, true, false, true, false, false, false, true, false, true, false, false, false, false, false, false, false, false, false] rfl rfl (any_of HT_.out (by kernel_rfl)) (fun _ _ _ h => h) (Or.inl ⟨by rfl, ?_⟩) ?_ ?_
         rotate_left
         ·intro w'
          go_simp
          with_reducible rfl
         rotate_left
         ·simp only [Act.put, z1_, z2_, z3_, i64_w, i32_w]
          rfl
         refine take_ (i := 18) (N := some 50) (v := ?_) (a' := ?_) #[true, true, true, true, true, true, true, true, true, true, true, true, true, true, true, true, true, true, true, true, false, false, false, true, false, true, false, false, false, false, false, false, false, false, false] rfl rfl (take_ofW HT_.out HW_.out (by kernel_rfl)) (fun _ _ _ h => h) (Or.inl ⟨by rfl, ?_⟩) hHeld ?_ ?_
         rotate_left
         ·rintro w' ⟨s0, s1, s2, s3, s4, s5, s6, s7, s8, s9, s10, s11, s12, s13, s14, s15, s16, s17, s18, s19, s20, s21, s22, s23, s24, s25, s26, s27, s28, s29, s30, s31, s32, s33, s34, s35⟩
          go_simp
          with_reducible rfl
         rotate_left
         ·simp only [Act.put, z1_, z2_, z3_, i64_w, i32_w]
          rfl
         refine pure_ (i := 20) (N := some 52) (v := ?_) (a' := ?_) #[true, true, true, true, true, true, true, true, true, true, true, true, true, true, true, true, true, true, true, true, true, false, false, true, false, true, false, false, false, false, false, false, false, false, false] rfl rfl (any_of HT_.out (by kernel_rfl)) (fun _ _ _ h => h) (Or.inl ⟨by rfl, ?_⟩) ?_ ?_
         rotate_left
         ·intro w'
          go_simp
          with_reducible rfl
         rotate_left
         ·simp only [Act.put, z1_, z2_, z3_, i64_w, i32_w]
          rfl
         refine pure_ (i := 21) (N := some 53) (v := ?_) (a' := ?_) #[true, true, true, true, true, true, true, true, true, true, true, true, true, true, true, true, true, true, true, true, true, true, false, true, false, true, false, false, false, false, false, false, false, false, false] rfl rfl (any_of HT_.out (by kernel_rfl)) (fun _ _ _ h => h) (Or.inl ⟨by rfl, ?_⟩) ?_ ?_
         rotate_left
         ·intro w'
          go_simp
          with_reducible rfl
         rotate_left
         ·simp only [Act.put, z1_, z2_, z3_, i64_w, i32_w]
          rfl
         refine take_ (i := 22) (N := some 54) (v := ?_) (a' := ?_) #[true, true, true, true, true, true, true, true, true, true, true, true, true, true, true, true, true, true, true, true, true, true, true, true, false, true, false, false, false, false, false, false, false, false, false] rfl rfl (take_ofW HT_.out HW_.out (by kernel_rfl)) (fun _ _ _ h => h) (Or.inl ⟨by rfl, ?_⟩) hHeld ?_ ?_
         rotate_left
         ·rintro w' ⟨s0, s1, s2, s3, s4, s5, s6, s7, s8, s9, s10, s11, s12, s13, s14, s15, s16, s17, s18, s19, s20, s21, s22, s23, s24, s25, s26, s27, s28, s29, s30, s31, s32, s33, s34, s35⟩
          go_simp
          with_reducible rfl
         rotate_left
         ·simp only [Act.put, z1_, z2_, z3_, i64_w, i32_w]
          rfl
         refine take_ (i := 24) (N := some 56) (v := ?_) (a' := ?_) #[true, true, true, true, true, true, true, true, true, true, true, true, true, true, true, true, true, true, true, true, true, true, true, true, true, true, false, false, false, false, false, false, false, false, false] rfl rfl (take_ofW HT_.out HW_.out (by kernel_rfl)) (fun _ _ _ h => h) (Or.inl ⟨by rfl, ?_⟩) hHeld ?_ ?_
         rotate_left
         ·rintro w' ⟨s0, s1, s2, s3, s4, s5, s6, s7, s8, s9, s10, s11, s12, s13, s14, s15, s16, s17, s18, s19, s20, s21, s22, s23, s24, s25, s26, s27, s28, s29, s30, s31, s32, s33, s34, s35⟩
          go_simp
          with_reducible rfl
         rotate_left
         ·simp only [Act.put, z1_, z2_, z3_, i64_w, i32_w]
          rfl
         refine pure_ (i := 26) (N := some 58) (v := ?_) (a' := ?_) #[true, true, true, true, true, true, true, true, true, true, true, true, true, true, true, true, true, true, true, true, true, true, true, true, true, true, true, false, false, false, false, false, false, false, false] rfl rfl (any_of HT_.out (by kernel_rfl)) (fun _ _ _ h => h) (Or.inl ⟨by rfl, ?_⟩) ?_ ?_
         rotate_left
         ·intro w'
          go_simp
          with_reducible rfl
         rotate_left
         ·simp only [Act.put, z1_, z2_, z3_, i64_w, i32_w]
          rfl
         refine pure_ (i := 27) (N := some 59) (v := ?_) (a' := ?_) #[true, true, true, true, true, true, true, true, true, true, true, true, true, true, true, true, true, true, true, true, true, true, true, true, true, true, true, true, false, false, false, false, false, false, false] rfl rfl (any_of HT_.out (by kernel_rfl)) (fun _ _ _ h => h) (Or.inl ⟨by rfl, ?_⟩) ?_ ?_
         rotate_left
         ·intro w'
          go_simp
          with_reducible rfl
         rotate_left
         ·simp only [Act.put, z1_, z2_, z3_, i64_w, i32_w]
          rfl
         refine take_ (i := 28) (N := some 60) (v := ?_) (a' := ?_) #[true, true, true, true, true, true, true, true, true, true, true, true, true, true, true, true, true, true, true, true, true, true, true, true, true, true, true, true, true, false, false, false, false, false, false] rfl rfl (take_ofW HT_.out HW_.out (by kernel_rfl)) (fun _ _ _ h => h) (Or.inl ⟨by rfl, ?_⟩) hHeld ?_ ?_
         rotate_left
         ·rintro w' ⟨s0, s1, s2, s3, s4, s5, s6, s7, s8, s9, s10, s11, s12, s13, s14, s15, s16, s17, s18, s19, s20, s21, s22, s23, s24, s25, s26, s27, s28, s29, s30, s31, s32, s33, s34, s35⟩
          go_simp
          with_reducible rfl
         rotate_left
         ·simp only [Act.put, z1_, z2_, z3_, i64_w, i32_w]
          rfl
         refine pure_ (i := 29) (N := some 61) (v := ?_) (a' := ?_) #[true, true, true, true, true, true, true, true, true, true, true, true, true, true, true, true, true, true, true, true, true, true, true, true, true, true, true, true, true, true, false, false, false, false, false] rfl rfl (any_of HT_.out (by kernel_rfl)) (fun _ _ _ h => h) (Or.inl ⟨by rfl, ?_⟩) ?_ ?_
         rotate_left
         ·intro w'
          go_simp
          with_reducible rfl
         rotate_left
         ·simp only [Act.put, z1_, z2_, z3_, i64_w, i32_w]
          rfl
         refine one_ (i := 30) (N := some 62) #[true, true, true, true, true, true, true, true, true, true, true, true, true, true, true, true, true, true, true, true, true, true, true, true, true, true, true, true, true, true, true, false, false, false, false] rfl rfl (one_of HT_.out (by kernel_rfl)) (by decide) (fun K hK => ?_)
         refine goes_ Try.func75 (by kernel_rfl) rfl #[.int .i64 a0_2, .int .i64 a0_3, .int .i64 (wrap64 (((rd_T77 l0_6 a2).f0) - ((rd_T77 l0_6 a1).f0))), .int .i64 (wrap64 (((rd_T77 l0_6 a2).f1) - ((rd_T77 l0_6 a1).f1)))] (by rfl) rfl rfl (by (try simp only [List.map_toArray, List.map_cons, List.map_nil]); first | done | rfl | (simp only [List.length_drop, List.length_take]; rfl)) ?_
         with_reducible refine (entrepotref06_Dist.calls kj3 a0_2 a0_3 (wrap64 (((rd_T77 l0_6 a2).f0) - ((rd_T77 l0_6 a1).f0))) (wrap64 (((rd_T77 l0_6 a2).f1) - ((rd_T77 l0_6 a1).f1))) t427 t428 _ A25.out).mono ?_
         rintro e w28 ⟨rfl, hb⟩
         refine ⟨_, rfl, ?_⟩
         have n0_ := Aside0.mk (blk_below (g := gb419) (o := .cells #[.string a0_0, .int .i64 a0_1, .int .i64 a0_2, .int .i64 a0_3, .int .i64 a0_4, .int .i64 a0_5, .slice (some ad423) l0_6.length c0_6, .slice A0_7 l0_7.length c0_7] 46 (0, 0)) (by (with_reducible repeat (first | refine blk_drewN ?_ _ | refine blk_drew ?_ | refine blk_alloc ?_ _)); exact BK419.out) hb)
         have n1_ := Aside0.mk (below_step (by repeat (first | (with_reducible first | exact HB.out | apply below_alloc | apply pw_below_drewN | apply below_drew1 | refine below_set ?_ GE419.out) | exact HB.out)) hb)
         clear BK419
         clear HB
         have BK419 := n0_
         have HB := n1_
         clear n0_ n1_
         (try clear hb)
         (try clear hb2)
         (try clear hk)
         (try clear hi)
         refine hK.out _ _ ⟨(blk_cell BK419.out 0).trans rfl, (blk_cell BK419.out 1).trans rfl, (blk_cell BK419.out 2).trans rfl, (blk_cell BK419.out 3).trans rfl, (blk_cell BK419.out 4).trans rfl, (blk_cell BK419.out 5).trans rfl, (blk_cell BK419.out 6).trans rfl, (blk_cell BK419.out 7).trans rfl, ((HB.out.cell (World.block_lt_of_cell? w _ hw423_0)).trans hw423_0), ((HB.out.cell (World.block_lt_of_cell? w _ hw423_1)).trans hw423_1), ((HB.out.cell (World.block_lt_of_cell? w _ hw423_2)).trans hw423_2), ((HB.out.cell (World.block_lt_of_cell? w _ hw423_3)).trans hw423_3), ((HB.out.cell (World.block_lt_of_cell? w _ hw423_4)).trans hw423_4), ((HB.out.cell (World.block_lt_of_cell? w _ hw423_5)).trans hw423_5), ((HB.out.cell (World.block_lt_of_cell? w _ hw423_6)).trans hw423_6), ((HB.out.cell (World.block_lt_of_cell? w _ hw424_0)).trans hw424_0), ((HB.out.cell (World.block_lt_of_cell? w _ hw424_1)).trans hw424_1), ((HB.out.cell (World.block_lt_of_cell? w _ hw424_2)).trans hw424_2), ((HB.out.cell (World.block_lt_of_cell? w _ hw424_3)).trans hw424_3), ((HB.out.cell (World.block_lt_of_cell? w _ hw424_4)).trans hw424_4), ((HB.out.cell (World.block_lt_of_cell? w _ hw424_5)).trans hw424_5), ((HB.out.cell (World.block_lt_of_cell? w _ hw424_6)).trans hw424_6), ((HB.out.cell (World.block_lt_of_cell? w _ hw425_0)).trans hw425_0), ((HB.out.cell (World.block_lt_of_cell? w _ hw425_1)).trans hw425_1), ((HB.out.cell (World.block_lt_of_cell? w _ hw425_2)).trans hw425_2), ((HB.out.cell (World.block_lt_of_cell? w _ hw425_3)).trans hw425_3), ((HB.out.cell (World.block_lt_of_cell? w _ hw425_4)).trans hw425_4), ((HB.out.cell (World.block_lt_of_cell? w _ hw425_5)).trans hw425_5), ((HB.out.cell (World.block_lt_of_cell? w _ hw425_6)).trans hw425_6), ((HB.out.cell (World.block_lt_of_cell? w _ hw426_0)).trans hw426_0), ((HB.out.cell (World.block_lt_of_cell? w _ hw426_1)).trans hw426_1), ((HB.out.cell (World.block_lt_of_cell? w _ hw426_2)).trans hw426_2), ((HB.out.cell (World.block_lt_of_cell? w _ hw426_3)).trans hw426_3), ((HB.out.cell (World.block_lt_of_cell? w _ hw426_4)).trans hw426_4), ((HB.out.cell (World.block_lt_of_cell? w _ hw426_5)).trans hw426_5), ((HB.out.cell (World.block_lt_of_cell? w _ hw426_6)).trans hw426_6)⟩ (fun hHeld => ?_)
         clear hK K
         refine norm_ (a' := ?_) ?_ ?_
         rotate_left
         ·show Act.put _ (some 62) _ = _
          simp only [Act.put, z1_, z2_, z3_, i64_w, i32_w]
          rfl
         refine pure_ (i := 31) (N := some 63) (v := ?_) (a' := ?_) #[true, true, true, true, true, true, true, true, true, true, true, true, true, true, true, true, true, true, true, true, true, true, true, true, true, true, true, true, true, true, true, true, false, false, false] rfl rfl (any_of HT_.out (by kernel_rfl)) (fun _ _ _ h => h) (Or.inl ⟨by rfl, ?_⟩) ?_ ?_
         rotate_left
         ·intro w'
          go_simp
          with_reducible rfl
         rotate_left
         ·simp only [Act.put, z1_, z2_, z3_, i64_w, i32_w]
          rfl
         refine pure_ (i := 32) (N := some 64) (v := ?_) (a' := ?_) #[true, true, true, true, true, true, true, true, true, true, true, true, true, true, true, true, true, true, true, true, true, true, true, true, true, true, true, true, true, true, true, true, true, false, false] rfl rfl (any_of HT_.out (by kernel_rfl)) (fun _ _ _ h => h) (Or.inl ⟨by rfl, ?_⟩) ?_ ?_
         rotate_left
         ·intro w'
          go_simp
          with_reducible rfl
         rotate_left
         ·simp only [Act.put, z1_, z2_, z3_, i64_w, i32_w]
          rfl
         refine pure_ (i := 33) (N := some 6) (v := ?_) (a' := ?_) #[true, true, true, true, true, true, true, true, true, true, true, true, true, true, true, true, true, true, true, true, true, true, true, true, true, true, true, true, true, true, true, true, true, true, false] rfl rfl (any_of HT_.out (by kernel_rfl)) (fun _ _ _ h => h) (Or.inl ⟨by rfl, ?_⟩) ?_ ?_
         rotate_left
         ·intro w'
          go_simp
          with_reducible rfl
         rotate_left
         ·simp only [Act.put, z1_, z2_, z3_, i64_w, i32_w]
          rfl
         refine pure_ (i := 34) (N := some 7) (v := ?_) (a' := ?_) #[true, true, true, true, true, true, true, true, true, true, true, true, true, true, true, true, true, true, true, true, true, true, true, true, true, true, true, true, true, true, true, true, true, true, true] rfl rfl (any_of HT_.out (by kernel_rfl)) (fun _ _ _ h => h) (Or.inl ⟨by rfl, ?_⟩) ?_ ?_
         rotate_left
         ·intro w'
          go_simp
          with_reducible rfl
         rotate_left
         ·simp only [Act.put, z1_, z2_, z3_, i64_w, i32_w]
          rfl
         refine done_ (done_of HT_.out (by kernel_rfl)) ?_
         try go_wp2
         go_ret2
         exact ⟨by first | rfl | (simp [errW_none, errW_some] <;> rfl) | (simp [*, errW_none, errW_some] <;> rfl), by repeat (first | (with_reducible first | exact HB.out | apply below_alloc | apply pw_below_drewN | apply below_drew1 | refine below_set ?_ GE419.out) | exact HB.out)⟩
        ·rw [if_neg c24] at H
         exact absurd H (by simp)
       ·rw [if_neg c23] at H
        exact absurd H (by simp)
      ·rw [if_neg c22] at H
       exact absurd H (by simp)
     ·rw [if_neg c21] at H
      exact absurd H (by simp)

end Go.Proofs.Ytlncbckpcmojpaa.P
namespace Go.Proofs.Ytlncbckpcmojpaa.P
open Go.RowKit Go.Proofs.YtlncbckpcmojpaaW.PrintWords Go.Proofs.YtlncbckpcmojpaaW.PrintLast Go.Proofs.YtlncbckpcmojpaaW.PrintMore
attribute [local go_sem] max2_int min2_int max_two min_two max_three min_three max_four min_four

/-! ### entrepotref10_Unit: function 60 -/
def entrepotref10_Unit.f (a0_0 : ByteArray) (a0_1 : Int) (a0_2 : Int) (a0_3 : Int) (a0_4 : Int) (a0_5 : Int) (l0_6 : List (S77)) (l0_7 : List Int) : Option (Int) := if a0_2 = 6 then (some 10) else (some 1)
set_option maxHeartbeats 8000000 in
set_option maxRecDepth 100000 in
theorem entrepotref10_Unit.calls (a0_0 : ByteArray) (a0_1 : Int) (a0_2 : Int) (a0_3 : Int) (a0_4 : Int) (a0_5 : Int) (A0_6 : Option Addr) (c0_6 : Nat) (l0_6 : List (S77)) (A0_7 : Option Addr) (c0_7 : Nat) (l0_7 : List Int) (r : Int) (w : World) (hr0_6 : Kd.C k77 w A0_6 l0_6.length l0_6) (hc0_6 : l0_6.length ≤ c0_6) (hr0_7 : Kd.C (Kd.int .i64) w A0_7 l0_7.length l0_7) (hc0_7 : l0_7.length ≤ c0_7) (h : entrepotref10_Unit.f a0_0 a0_1 a0_2 a0_3 a0_4 a0_5 l0_6 l0_7 = some r) :
  Calls Try.prog 60 #[.agg #[.string a0_0, .int .i64 a0_1, .int .i64 a0_2, .int .i64 a0_3, .int .i64 a0_4, .int .i64 a0_5, .slice A0_6 l0_6.length c0_6, .slice A0_7 l0_7.length c0_7]] w fun e w' => e = .returned (.int .i64 r) ∧ Below w.heap.size w w' := by
 have hu46 := Try.underlying46
 have HR0_6 := Aside0.mk hr0_6
 have HC0_6 := Aside0.mk hc0_6
 clear hr0_6 hc0_6
 have HR0_7 := Aside0.mk hr0_7
 have HC0_7 := Aside0.mk hc0_7
 clear hr0_7 hc0_7
 have HB := Aside0.mk (Below.refl w.heap.size w)
 have H : (if a0_2 = 6 then (some 10) else (some 1)) = some r := h
 clear h
 by_cases c2 : a0_2 = 6
 ·rw [if_pos c2] at H
  have c2b0 : (a0_2 == 6) = true := beq_iff_eq.mpr c2
  have c2b1 : (a0_2 != 6) = false := bne_eq_false_iff_eq.mpr c2
  clear c2
  obtain rfl := Option.some.inj H
  go_enter Try.func60, Try.ntmps60
  go_wp2_with (first | ((with_reducible refine gate_dst (N := 1) rfl ?_); refine box_event ?hg (N := 1) ?hd (cs := #[.string a0_0, .int .i64 a0_1, .int .i64 a0_2, .int .i64 a0_3, .int .i64 a0_4, .int .i64 a0_5, .slice A0_6 l0_6.length c0_6, .slice A0_7 l0_7.length c0_7]) (t := 46) ?hr ?_; (case hd => rfl); (case hg => rfl); (case hr => first | (go_simp; done) | (go_simp; rfl)); intro gb404 hg w3 hbox hb; have n0_ := Aside0.mk (below_step (by repeat (first | (with_reducible first | exact HB.out | apply below_alloc | apply pw_below_drewN | apply below_drew1) | exact HB.out)) hb); have n1_ := Aside0.mk (hbox); have n2_ := Aside0.mk ((by rw [hg]; exact (below_size (by repeat (first | (with_reducible first | exact HB.out | apply below_alloc | apply pw_below_drewN | apply below_drew1) | exact HB.out))) : w.heap.size ≤ gb404)); have n3_ := Aside0.mk ((by rw [hg]; exact (below_size (by repeat (first | (with_reducible first | exact HB.out | apply below_alloc | apply pw_below_drewN | apply below_drew1) | exact HB.out))) : w.heap.size ≤ gb404)); clear HB; have HB := n0_; have BK404 := n1_; have GW404 := n2_; have GE404 := n3_; clear n0_ n1_ n2_ n3_; clear hb hbox hg; obtain ⟨hcz4_0, hcz4_1, hcz4_2, hcz4_3, hcz4_4, hcz4_5, hcz4_6, hcz4_7, hfz4_0, hfz4_1, hfz4_2, hfz4_3, hfz4_4, hfz4_5, hfz4_6, hfz4_7⟩ := blk8_ BK404.out))
  go_ret
  exact ⟨by first | rfl | (simp [errW_none, errW_some] <;> rfl) | (simp [*, errW_none, errW_some] <;> rfl), by repeat (first | (with_reducible first | exact HB.out | apply below_alloc | apply pw_below_drewN | apply below_drew1 | refine below_set ?_ GE404.out) | exact HB.out)⟩
 ·rw [if_neg c2] at H
  have c2b0 : (a0_2 == 6) = false := beq_eq_false_iff_ne.mpr c2
  have c2b1 : (a0_2 != 6) = true := bne_iff_ne.mpr c2
  obtain rfl := Option.some.inj H
  go_enter Try.func60, Try.ntmps60
  go_wp2_with (first | ((with_reducible refine gate_dst (N := 1) rfl ?_); refine box_event ?hg (N := 1) ?hd (cs := #[.string a0_0, .int .i64 a0_1, .int .i64 a0_2, .int .i64 a0_3, .int .i64 a0_4, .int .i64 a0_5, .slice A0_6 l0_6.length c0_6, .slice A0_7 l0_7.length c0_7]) (t := 46) ?hr ?_; (case hd => rfl); (case hg => rfl); (case hr => first | (go_simp; done) | (go_simp; rfl)); intro gb404 hg w5 hbox hb; have n0_ := Aside0.mk (below_step (by repeat (first | (with_reducible first | exact HB.out | apply below_alloc | apply pw_below_drewN | apply below_drew1) | exact HB.out)) hb); have n1_ := Aside0.mk (hbox); have n2_ := Aside0.mk ((by rw [hg]; exact (below_size (by repeat (first | (with_reducible first | exact HB.out | apply below_alloc | apply pw_below_drewN | apply below_drew1) | exact HB.out))) : w.heap.size ≤ gb404)); have n3_ := Aside0.mk ((by rw [hg]; exact (below_size (by repeat (first | (with_reducible first | exact HB.out | apply below_alloc | apply pw_below_drewN | apply below_drew1) | exact HB.out))) : w.heap.size ≤ gb404)); clear HB; have HB := n0_; have BK404 := n1_; have GW404 := n2_; have GE404 := n3_; clear n0_ n1_ n2_ n3_; clear hb hbox hg; obtain ⟨hcz6_0, hcz6_1, hcz6_2, hcz6_3, hcz6_4, hcz6_5, hcz6_6, hcz6_7, hfz6_0, hfz6_1, hfz6_2, hfz6_3, hfz6_4, hfz6_5, hfz6_6, hfz6_7⟩ := blk8_ BK404.out))
  go_ret
  exact ⟨by first | rfl | (simp [errW_none, errW_some] <;> rfl) | (simp [*, errW_none, errW_some] <;> rfl), by repeat (first | (with_reducible first | exact HB.out | apply below_alloc | apply pw_below_drewN | apply below_drew1 | refine below_set ?_ GE404.out) | exact HB.out)⟩

end Go.Proofs.Ytlncbckpcmojpaa.P
namespace Go.Proofs.Ytlncbckpcmojpaa
open Go.RowKit Go.Proofs.YtlncbckpcmojpaaW.PrintWords Go.Proofs.YtlncbckpcmojpaaW.PrintLast Go.Proofs.YtlncbckpcmojpaaW.PrintMore P
namespace Ref11
open Ref08 (In rdN ret_b old_cell)
def stopB (n : Nat) (s : Int) : Bool := decide (0 ≤ s) && decide (s < (n : Int))
def nodesB (n : Nat) (l : List Int) : Bool := l.all (stopB n)
theorem rd_at {l : List Int} {j : Nat} (hj : j < l.length) : rd l (j : Int) = l[j] := by
 unfold rd; rw [Int.toNat_natCast, List.getD_eq_getElem?_getD, List.getElem?_eq_getElem hj]; rfl
set_option maxHeartbeats 4000000 in
set_option maxRecDepth 100000 in
theorem nodes_c (x : In) (R : Option Addr) (cap : Nat) (l : List Int) (W : World) (hl : Kd.C (Kd.int .i64) W R l.length l) (hll : l.length ≤ 1000000) :
  Calls Try.prog 45 #[x.val, .slice R l.length cap] W fun e w' => e = .returned (.bool (nodesB x.ns.length l)) ∧ Below W.heap.size W w' := by
 obtain ⟨nm, kd, mt, sc, cp, fl, A, c, ns, B, e0, mx⟩ := x
 unfold In.val
 simp only
 have bK := heap_alloc_new W (.cells #[.string nm, .int .i64 kd, .int .i64 mt, .int .i64 sc, .int .i64 cp, .int .i64 fl, .slice A ns.length c, .slice B mx.length e0] 46)
 have hl1 := Kd.C_alloc hl (.cells #[.string nm, .int .i64 kd, .int .i64 mt, .int .i64 sc, .int .i64 cp, .int .i64 fl, .slice A ns.length c, .slice B mx.length e0] 46)
 have hW0 : Below W.heap.size W (W.alloc (.cells #[.string nm, .int .i64 kd, .int .i64 mt, .int .i64 sc, .int .i64 cp, .int .i64 fl, .slice A ns.length c, .slice B mx.length e0] 46)) := (Below.refl _ W).alloc (Nat.le_refl _) _
 generalize hW1 : W.alloc (.cells #[.string nm, .int .i64 kd, .int .i64 mt, .int .i64 sc, .int .i64 cp, .int .i64 fl, .slice A ns.length c, .slice B mx.length e0] 46) = W1 at *
 have HW := Lib.hid hW1
 have HB := Lib.hid hW0
 have HL := Lib.hid hl1
 obtain ⟨k0, k1, k2, k3, k4, k5, k6, k7, -⟩ := blk8_ bK
 have HS := Lib.hid (show nodesB ns.length l = l.all (stopB ns.length) from rfl)
 generalize nodesB ns.length l = Q at *
 have HI0 : Aside0 ((∀ j (h : j < l.length), j < 0 → stopB ns.length l[j] = true) ∧ Below W1.heap.size W1 W1) := ⟨fun j h hj => by omega, Below.refl _ _⟩
 clear hW1 hW0 hl1 bK hl k0 k1 k2 k3 k4 k5 k7
 go_enter Try.func45, Try.ntmps45
 go_upto_region 1 with (fail)
 rw [HW.out]
 go_wp2
 go_loopw [5] (fun v5 wr => ∃ k : Nat, v5 = .int .i64 k ∧ k ≤ l.length ∧ Aside0 ((∀ j (h : j < l.length), j < k → stopB ns.length l[j] = true) ∧ Below W1.heap.size W1 wr)) (fun v5 wr => l.length - (intOf v5).toNat)
 case atStart => exact ⟨0, rfl, Nat.zero_le _, HI0⟩
 case round =>
  obtain ⟨k, rfl, hk, HK⟩ := hrel
  clear HI0
  by_cases hlt : k < l.length
  ·have bt : decide ((k : Int) < (l.length : Int)) = true := decide_eq_true (by omega)
   obtain ⟨al, e1, cl⟩ := Kd.at_int (Kd.C_below HL.out HK.out.2) (k : Int) (by omega) (by omega)
   cases e1
   rw [Int.toNat_natCast] at cl
   have q6 := old_cell HK.out.2 k6
   have p2 : (0 : Int) ≤ (k : Int) ∧ (k : Int) < (l.length : Int) := by omega
   have HR := Lib.hid (rd_at hlt)
   generalize rd l (k : Int) = s at *
   have HC := Lib.hid (show stopB ns.length l[k] = (decide (0 ≤ s) && decide (s < (ns.length : Int))) from by rw [← HR.out]; rfl)
   have no : (0 ≤ s ∧ s < (ns.length : Int) → False) → Q = false := fun h => by
    rw [HS.out, List.all_eq_false]
    refine ⟨l[k], List.getElem_mem _, ?_⟩
    rw [HC.out]
    simp only [Bool.and_eq_true, decide_eq_true_eq]
    exact fun e => h e
   by_cases h1 : s < 0
   ·have b1 : decide (s < 0) = true := decide_eq_true h1
    have HN := Lib.hid (And.intro (no (by omega)) (below_step HB.out HK.out.2))
    clear h1 no HK
    go_wp2
    go_region
    go_wp2
    go_ret
    exact ⟨ret_b HN.out.1.symm, below_drew1 HN.out.2⟩
   ·have b1 : decide (s < 0) = false := decide_eq_false h1
    by_cases h2 : s ≥ (ns.length : Int)
    ·have b2 : decide (s ≥ (ns.length : Int)) = true := decide_eq_true h2
     have HN := Lib.hid (And.intro (no (by omega)) (below_step HB.out HK.out.2))
     clear h1 h2 no HK
     go_wp2
     go_region
     go_wp2
     go_ret
     exact ⟨ret_b HN.out.1.symm, below_drew1 HN.out.2⟩
    ·have b2 : decide (s ≥ (ns.length : Int)) = false := decide_eq_false h2
     have HJ := Lib.hid (show ((∀ j (h : j < l.length), j < k + 1 → stopB ns.length l[j] = true) ∧ Below W1.heap.size W1 wr.drew) from ⟨fun j h hj => by
      by_cases e : j = k
      ·subst e; rw [HC.out, decide_eq_true (show 0 ≤ s by omega), decide_eq_true (show s < (ns.length : Int) by omega)]; rfl
      ·exact HK.out.1 j h (by omega), below_drew1 HK.out.2⟩)
     clear h1 h2 no HK
     go_wp2
     go_region
     go_wp2
     go_roundw
     case rel => exact ⟨k + 1, by go_num, by omega, ⟨HJ.out⟩⟩
     case measure => simp [intOf]; omega
  ·have bt : decide ((k : Int) < (l.length : Int)) = false := decide_eq_false (by omega)
   obtain rfl : k = l.length := by omega
   have HN := Lib.hid (And.intro (show Q = true from by
    rw [HS.out, List.all_eq_true]
    intro s hs
    obtain ⟨j, hj, rfl⟩ := List.getElem_of_mem hs
    exact HK.out.1 j hj hj) (below_step HB.out HK.out.2))
   clear HK
   go_wp2
   go_ret
   exact ⟨ret_b HN.out.1.symm, HN.out.2⟩
/- LOADS -/
def sumR (ns : List Ref08.Node) (l : List Int) : Int := l.foldl (fun s a => wrap64 (s + (rdN ns a).f2)) 0
def outR (ns : List Ref08.Node) (l : List Int) (k : Nat) : List Int := (List.range k).map fun j : Nat => sumR ns (l.take (j + 1))
def loadsR (ns : List Ref08.Node) (l : List Int) : List Int := if nodesB ns.length l = true then outR ns l l.length else []
theorem outR_succ (ns : List Ref08.Node) (l : List Int) (k : Nat) : outR ns l (k + 1) = outR ns l k ++ [sumR ns (l.take (k + 1))] := by unfold outR; rw [List.range_succ, List.map_append]; rfl
theorem sumR_step (ns : List Ref08.Node) (l : List Int) {k : Nat} (h : k < l.length) : sumR ns (l.take (k + 1)) = wrap64 (sumR ns (l.take k) + (rdN ns l[k]).f2) := by
 unfold sumR
 rw [List.take_succ_eq_append_getElem h, List.foldl_append]; rfl
theorem nodes_in {n : Nat} {l : List Int} (h : nodesB n l = true) : ∀ s ∈ l, 0 ≤ s ∧ s < (n : Int) := by
 intro s hs
 have := List.all_eq_true.1 h s hs
 unfold stopB at this
 simpa using this
/-- The state: the instance's block, the numbers so far. -/
def SI (x : In) (w : World) (v : Value) (xs : List Int) (W : World) : Prop := W.heap[w.heap.size]? = some (Ref08.XB x) ∧ Kd.R (Kd.int .i64) 3 W w.heap.size (fun _ => True) v xs ∧ Below w.heap.size w W
theorem SI.below {x : In} {w : World} {v : Value} {xs : List Int} {W W' : World} (h : SI x w v xs W) (hb : Below W.heap.size W W') : SI x w v xs W' := ⟨blk_below h.1 hb, Kd.R_below h.2.1 hb, below_step h.2.2 hb⟩
theorem SI.drew {x : In} {w : World} {v : Value} {xs : List Int} {W : World} (h : SI x w v xs W) : SI x w v xs W.drew := h.below (below_drew1 (Below.refl _ _))
theorem SI.app {x : In} {w : World} {v v' : Value} {xs ys : List Int} {W W' : World} (h : SI x w v xs W) (ho : Kd.R (Kd.int .i64) 3 W' w.heap.size (fun _ => True) v' ys) (hb : Below w.heap.size w W') (hg : W.grownBy W' v.ownBlock) : SI x w v' ys W' :=
 ⟨blk_grown h.1 hg (Kd.R_ne h.2.1 h.1 (by decide)), ho, hb⟩
theorem SI.cells {x : In} {w : World} {v : Value} {xs : List Int} {W : World} (h : SI x w v xs W) : W.cell? ⟨w.heap.size, 0, none⟩ = some (.string x.nm) ∧ W.cell? ⟨w.heap.size, 1, none⟩ = some (.int .i64 x.kd) ∧ W.cell? ⟨w.heap.size, 2, none⟩ = some (.int .i64 x.mt) ∧ W.cell? ⟨w.heap.size, 3, none⟩ = some (.int .i64 x.sc) ∧
  W.cell? ⟨w.heap.size, 4, none⟩ = some (.int .i64 x.cp) ∧ W.cell? ⟨w.heap.size, 5, none⟩ = some (.int .i64 x.fl) ∧ W.cell? ⟨w.heap.size, 6, none⟩ = some (.slice x.A x.ns.length x.c) ∧ W.cell? ⟨w.heap.size, 7, none⟩ = some (.slice x.B x.mx.length x.e) := by
 obtain ⟨k0, k1, k2, k3, k4, k5, k6, k7, -⟩ := blk8_ h.1
 exact ⟨k0, k1, k2, k3, k4, k5, k6, k7⟩
set_option maxHeartbeats 8000000 in
set_option maxRecDepth 100000 in
theorem loads_c (x : In) (R : Option Addr) (cap : Nat) (l : List Int) (W : World) (h : x.rows W) (hl : Kd.C (Kd.int .i64) W R l.length l) (hll : l.length ≤ 1000000) :
  Calls Try.prog 25 #[x.val, .slice R l.length cap] W fun e w' => ∃ v', e = .returned v' ∧ Kd.R (Kd.int .i64) 3 w' W.heap.size (fun _ => True) v' (loadsR x.ns l) ∧ Below W.heap.size W w' := by
 have HR := Lib.hid h
 have HL := Lib.hid hl
 have HN := Lib.hid (fun W' (hb : Below W.heap.size W W') => nodes_c x R cap l W' (Kd.C_below hl hb) hll)
 obtain ⟨nm, kd, mt, sc, cp, fl, A, c, ns, B, e0, mx⟩ := x
 unfold In.val at *
 simp only at HN ⊢
 have HD := Lib.hid (show loadsR ns l = if nodesB ns.length l = true then outR ns l l.length else [] from rfl)
 generalize loadsR ns l = res at *
 have bK := heap_alloc_new W (.cells #[.string nm, .int .i64 kd, .int .i64 mt, .int .i64 sc, .int .i64 cp, .int .i64 fl, .slice A ns.length c, .slice B mx.length e0] 46)
 have hW0 : Below W.heap.size W (W.alloc (.cells #[.string nm, .int .i64 kd, .int .i64 mt, .int .i64 sc, .int .i64 cp, .int .i64 fl, .slice A ns.length c, .slice B mx.length e0] 46)) := (Below.refl _ W).alloc (Nat.le_refl _) _
 generalize hW1 : W.alloc (.cells #[.string nm, .int .i64 kd, .int .i64 mt, .int .i64 sc, .int .i64 cp, .int .i64 fl, .slice A ns.length c, .slice B mx.length e0] 46) = W1 at *
 have HW := Lib.hid hW1
 have HX := Lib.hid (show W1.heap[W.heap.size]? = some (Ref08.XB ⟨nm, kd, mt, sc, cp, fl, A, c, ns, B, e0, mx⟩) ∧ Below W.heap.size W W1 from ⟨bK, hW0⟩)
 clear hW1 hW0 bK h hl
 go_enter Try.func25, Try.ntmps25
 go_upto_region 1 with (fail)
 rw [HW.out]
 go_upto_region 2 with (first | ((with_reducible refine gate_dst (N := 8) rfl ?_); refine Kd.R_lit (Kd.int .i64) W.heap.size 3 ?hg (N := 8) ?hd (xs := ([] : List Int)) (inner := []) (ok := fun _ => True) (okp := fun _ => True) ?hr ?hp (fun _ hk => hk) trivial HX.out.2 HX.out.2.size (by simp) ?_; (case hd => rfl); (case hg => rfl); (case hr => first | (go_simp; done) | (go_simp; rfl)); (case hp => exact (Reps.none _ _)); intro u5 w0 ho hb hg hnew; have H0 := Aside0.mk (show SI ⟨nm, kd, mt, sc, cp, fl, A, c, ns, B, e0, mx⟩ W u5 [] w0 from ⟨blk_grown HX.out.1 hg (by simp), ho, hb⟩); clear hg hnew ho hb))
 obtain ⟨k0, k1, k2, k3, k4, k5, k6, k7⟩ := H0.out.cells
 simp only at k0 k1 k2 k3 k4 k5 k6 k7
 go_wp2_with fail
 refine (HN.out _ H0.out.2.2).mono ?_
 rintro e w2 ⟨rfl, hb⟩
 have H1 := Aside0.mk (H0.out.below hb)
 clear hb k0 k1 k2 k3 k4 k5 k6 k7 H0 HN
 cases hnb : nodesB ns.length l with
 | false =>
  have HE := Lib.hid hnb
  clear hnb
  go_wp2
  go_ret
  exact ⟨_, rfl, by rw [HD.out, if_neg (by rw [HE.out]; exact Bool.false_ne_true)]; exact H1.out.2.1, H1.out.2.2⟩
 | true =>
  have HIn := Lib.hid (nodes_in hnb)
  have HD := Lib.hid (HD.out.trans (if_pos hnb))
  clear hnb
  have HI0 : Aside0 (SI ⟨nm, kd, mt, sc, cp, fl, A, c, ns, B, e0, mx⟩ W u5 (outR ns l 0) w2) := ⟨H1.out⟩
  clear H1
  go_wp2
  go_loopw [5, 6, 7] (fun v5 v6 v7 wr => ∃ k : Nat, v6 = .int .i64 (sumR ns (l.take k)) ∧ v7 = .int .i64 k ∧ k ≤ l.length ∧ Aside0 (SI ⟨nm, kd, mt, sc, cp, fl, A, c, ns, B, e0, mx⟩ W v5 (outR ns l k) wr)) (fun v5 v6 v7 wr => l.length - (intOf v7).toNat)
  case atStart => exact ⟨0, rfl, rfl, Nat.zero_le _, HI0⟩
  case round =>
   obtain ⟨k, rfl, rfl, hk, HK⟩ := hrel
   clear HI0
   by_cases hlt : k < l.length
   ·have bt : decide ((k : Int) < (l.length : Int)) = true := decide_eq_true (by omega)
    obtain ⟨al, e1, cl⟩ := Kd.at_int (Kd.C_below HL.out HK.out.2.2) (k : Int) (by omega) (by omega)
    cases e1
    rw [Int.toNat_natCast] at cl
    have p1 : (0 : Int) ≤ (k : Int) ∧ (k : Int) < (l.length : Int) := by omega
    have HSt := Lib.hid (sumR_step ns l hlt)
    have HOt := Lib.hid (outR_succ ns l k)
    have hin := HIn.out l[k] (List.getElem_mem _)
    rw [rd_at hlt] at cl
    obtain ⟨j, hj⟩ : ∃ j : Nat, l[k] = (j : Int) := ⟨l[k].toNat, by omega⟩
    rw [hj] at cl hin HSt
    obtain ⟨ad, e2, d0, d1, d2, d3, d4, d5, d6⟩ := at_T77 (Kd.C_below HR.out.a HK.out.2.2) (j : Int) (by omega) (by simp only; omega)
    simp only at e2
    cases e2
    rw [Int.toNat_natCast] at d2
    have p2 : (0 : Int) ≤ (j : Int) ∧ (j : Int) < (ns.length : Int) := by omega
    obtain ⟨-, -, -, -, -, -, k6, -⟩ := HK.out.cells
    simp only at k6 d2
    have HK2 := Aside0.mk HK.out.drew
    have hlen : (outR ns l k).length ≤ 1000000 := by unfold outR; rw [List.length_map, List.length_range]; omega
    generalize hsm : sumR ns (l.take k) = sm at *
    unfold rdN at HSt
    generalize (rd_T77 ns (j : Int)).f2 = a at *
    obtain ⟨m, hm⟩ : ∃ m, wrap64 (sm + a) = m := ⟨_, rfl⟩
    have hmw := (i64_w _).trans hm
    have HM := Lib.hid hm
    clear hj hin d0 d1 d3 d4 d5 d6 hm HK hsm
    go_wp2
    go_region
    go_wp2_with (first | ((with_reducible refine gate_builtin (b := .append) (xs := #[.tmp 31, .tmp 33]) rfl ?_); at_builtin; refine Kd.R_append (Kd.int .i64) (w0 := W) W.heap.size rfl (.tmp 31) (.tmp 33) 23 3 (.int .i64 0) 8 rfl Try.underlying23 P.info3 rfl (by decide) (by omega) u5 (outR ns l k) m [.int .i64 m] (fun _ => True) (fun _ => False) rfl rfl rfl (fun _ hk => hk.elim) (fun _ _ => trivial) HK2.out.2.1 HK2.out.2.2 HK2.out.2.2.size (by omega) ?_; intro va wa ho hb hg hat; have HJ := Aside0.mk (HK2.out.app ho hb hg); clear ho hb hg hat))
    go_roundw
    case rel => exact ⟨k + 1, by rw [HSt.out, HM.out], by go_num, by omega, ⟨by rw [HOt.out, HSt.out, HM.out]; exact HJ.out⟩⟩
    case measure => simp [intOf]; omega
   ·have bt : decide ((k : Int) < (l.length : Int)) = false := decide_eq_false (by omega)
    obtain rfl : k = l.length := by omega
    have HE := Lib.hid HK.out
    clear HK
    go_wp2
    go_ret
    exact ⟨_, rfl, by rw [HD.out]; exact HE.out.2.1, HE.out.2.2⟩
end Ref11
end Go.Proofs.Ytlncbckpcmojpaa
namespace Go.Proofs.Ytlncbckpcmojpaa
open Go.RowKit Go.Proofs.YtlncbckpcmojpaaW.PrintWords Go.Proofs.YtlncbckpcmojpaaW.PrintLast Go.Proofs.YtlncbckpcmojpaaW.PrintMore P
namespace Ref11
open Ref08 (In rdN)
def unitR (m : Int) : Int := if m = 6 then 10 else 1
theorem unit_c (x : In) (W : World) (h : x.rows W) : Calls Try.prog 60 #[x.val] W fun e w' => e = .returned (.int .i64 (unitR x.mt)) ∧ Below W.heap.size W w' := by
 have e : entrepotref10_Unit.f x.nm x.kd x.mt x.sc x.cp x.fl x.ns x.mx = some (unitR x.mt) := by
  unfold entrepotref10_Unit.f unitR
  by_cases h : x.mt = 6
  ·rw [if_pos h, if_pos h]
  ·rw [if_neg h, if_neg h]
 exact P.entrepotref10_Unit.calls _ _ _ _ _ _ _ _ _ _ _ _ _ W h.a h.b h.c h.d e
/-- The way from one node to another one. -/
def legR (x : In) (i j : Nat) : Option (Int × Int) :=
 if x.mt = 0 then (if i * x.ns.length + j < x.mx.length then some (rd x.mx ((i * x.ns.length + j : Nat) : Int), 0) else none)
 else metric_Dist.f x.mt x.sc (wrap64 ((rdN x.ns (j : Int)).f0 - (rdN x.ns (i : Int)).f0)) (wrap64 ((rdN x.ns (j : Int)).f1 - (rdN x.ns (i : Int)).f1))
def legV (x : In) (i j : Nat) : Int := ((legR x i j).getD (0, 0)).1
theorem between_c (x : In) (i j : Nat) (W : World) (h : x.rows W) (hn : x.ns.length ≤ 65536) (hi : i < x.ns.length) (hj : j < x.ns.length) (r1 r2 : Int) (hl : legR x i j = some (r1, r2)) :
  Calls Try.prog 61 #[x.val, .int .i64 (i : Int), .int .i64 (j : Int)] W fun e w' => e = .returned (.tuple #[.int .i64 r1, .int .i64 r2]) ∧ Below W.heap.size W w' := by
 have e : entrepotref10_Between.f 61 x.nm x.kd x.mt x.sc x.cp x.fl x.ns x.mx (i : Int) (j : Int) = some (r1, r2) := by
  have nd : ∀ a : Nat, a < x.ns.length → entrepotref10_node.f x.nm x.kd x.mt x.sc x.cp x.fl x.ns x.mx (a : Int) = some true := fun a ha => by
   unfold entrepotref10_node.f
   rw [if_pos (by omega), decide_eq_true (by omega)]
  unfold entrepotref10_Between.f
  rw [nd i hi, Option.bind_some, if_pos rfl, nd j hj, Option.bind_some]
  show entrepotref10_Between.j0 (60 + 1) (i : Int) (j : Int) false x.nm x.kd x.mt x.sc x.cp x.fl x.ns x.mx = _
  rw [entrepotref10_Between.j0.eq_2, if_neg Bool.false_ne_true]
  unfold legR at hl
  by_cases hm : x.mt = 0
  ·rw [if_pos hm] at hl ⊢
   have hsq : i * x.ns.length ≤ 65536 * 65536 := Nat.mul_le_mul (by omega) hn
   have ew : wrap64 (wrap64 ((i : Int) * (x.ns.length : Int)) + (j : Int)) = ((i * x.ns.length + j : Nat) : Int) := by
    rw [← Int.natCast_mul]; unfold wrap64; omega
   rw [ew]
   split at hl
   ·rename_i hlt
    rw [if_pos (by omega), if_pos (by omega)]; exact hl
   ·cases hl
  ·rw [if_neg hm] at hl ⊢
   rw [if_pos (by omega), if_pos (by omega), if_pos (by omega), if_pos (by omega), RefDist.ref_dist]
   unfold rdN at hl
   rw [hl]; rfl
 exact P.entrepotref10_Between.calls 61 _ _ _ _ _ _ _ _ _ _ _ _ _ _ _ _ W h.a h.b h.c h.d e
end Ref11
end Go.Proofs.Ytlncbckpcmojpaa
namespace Go.Proofs.Ytlncbckpcmojpaa
open Go.RowKit Go.Proofs.YtlncbckpcmojpaaW.PrintWords Go.Proofs.YtlncbckpcmojpaaW.PrintLast Go.Proofs.YtlncbckpcmojpaaW.PrintMore P
namespace Ref11
open Ref08 (In rdN ret_b old_cell)
structure RunR where
 at_ : Nat
 now : Int
 late : Int
 i : Nat
 out : List Int
def stepR (lg : Nat → Nat → Int) (ns : List Ref08.Node) (u : Int) (r : RunR) (s : Int) : RunR :=
 ⟨s.toNat, wrap64 (mx (wrap64 (r.now + lg r.at_ s.toNat)) (wrap64 (u * (rdN ns s).f3)) + wrap64 (u * (rdN ns s).f5)),
  if r.late < 0 ∧ mx (wrap64 (r.now + lg r.at_ s.toNat)) (wrap64 (u * (rdN ns s).f3)) > wrap64 (u * (rdN ns s).f4) then (r.i : Int) else r.late, r.i + 1, r.out ++ [mx (wrap64 (r.now + lg r.at_ s.toNat)) (wrap64 (u * (rdN ns s).f3))]⟩
def startR (ns : List Ref08.Node) (u : Int) : RunR := ⟨0, wrap64 (u * (rdN ns 0).f3), -1, 0, []⟩
def alongR (lg : Nat → Nat → Int) (ns : List Ref08.Node) (u : Int) (l : List Int) : RunR := l.foldl (stepR lg ns u) (startR ns u)
def endR (lg : Nat → Nat → Int) (ns : List Ref08.Node) (u : Int) (n : Nat) (r : RunR) : Int := if r.late < 0 ∧ wrap64 (r.now + lg r.at_ 0) > wrap64 (u * (rdN ns 0).f4) then (n : Int) else r.late
def timesG (lg : Nat → Nat → Int) (ns : List Ref08.Node) (u : Int) (l : List Int) : List Int × Int :=
 if l = [] then ([], -1) else if nodesB ns.length l = true then ((alongR lg ns u l).out, endR lg ns u l.length (alongR lg ns u l)) else ([], 0)
def timesR (x : In) (l : List Int) : List Int × Int := timesG (legV x) x.ns (unitR x.mt) l
theorem alongR_step (lg : Nat → Nat → Int) (ns : List Ref08.Node) (u : Int) (l : List Int) {k : Nat} (hk : k < l.length) : alongR lg ns u (l.take (k + 1)) = stepR lg ns u (alongR lg ns u (l.take k)) l[k] := by
 unfold alongR
 rw [List.take_succ_eq_append_getElem hk, List.foldl_append]; rfl
theorem w_i (a b : Int) (h : wrap64 a = b) : IntKind.i64.wrap a = b := (i64_w _).trans h
set_option maxHeartbeats 16000000 in
set_option maxRecDepth 100000 in
theorem times_c (x : In) (R : Option Addr) (cap : Nat) (l : List Int) (W : World) (h : x.rows W) (hn : x.ns.length ≤ 65536) (hn0 : 0 < x.ns.length) (hl : Kd.C (Kd.int .i64) W R l.length l) (hll : l.length ≤ 1000000)
  (hleg : ∀ i j, i < x.ns.length → j < x.ns.length → ∃ r2, legR x i j = some (legV x i j, r2)) :
  Calls Try.prog 44 #[x.val, .slice R l.length cap] W fun e w' => ∃ v', e = .returned (.tuple #[v', .int .i64 (timesR x l).2]) ∧ Kd.R (Kd.int .i64) 3 w' W.heap.size (fun _ => True) v' (timesR x l).1 ∧ Below W.heap.size W w' := by
 have HR := Lib.hid h
 have HL := Lib.hid hl
 have HN := Lib.hid (fun W' (hb : Below W.heap.size W W') => nodes_c x R cap l W' (Kd.C_below hl hb) hll)
 have HU := Lib.hid (fun W' (hb : Below W.heap.size W W') => unit_c x W' (Ref08.In.rows_below h hb))
 have HBT := Lib.hid (fun (i j : Nat) (hi : i < x.ns.length) (hj : j < x.ns.length) => (hleg i j hi hj).imp fun r2 e W' (hb : Below W.heap.size W W') => between_c x i j W' (Ref08.In.rows_below h hb) hn hi hj _ r2 e)
 unfold timesR
 generalize legV x = lg at HBT ⊢
 clear hleg
 obtain ⟨nm, kd, mt, sc, cp, fl, A, c, ns, B, e0, mxs⟩ := x
 unfold In.val at *
 simp only at HN HU HBT hn hn0 ⊢
 obtain ⟨u, hu⟩ : ∃ u, unitR mt = u := ⟨_, rfl⟩
 rw [hu] at HU ⊢
 clear hu
 have HD := Lib.hid (show timesG lg ns u l = if l = [] then ([], -1) else if nodesB ns.length l = true then ((alongR lg ns u l).out, endR lg ns u l.length (alongR lg ns u l)) else ([], 0) from rfl)
 generalize timesG lg ns u l = res at *
 have bK := heap_alloc_new W (.cells #[.string nm, .int .i64 kd, .int .i64 mt, .int .i64 sc, .int .i64 cp, .int .i64 fl, .slice A ns.length c, .slice B mxs.length e0] 46)
 have hW0 : Below W.heap.size W (W.alloc (.cells #[.string nm, .int .i64 kd, .int .i64 mt, .int .i64 sc, .int .i64 cp, .int .i64 fl, .slice A ns.length c, .slice B mxs.length e0] 46)) := (Below.refl _ W).alloc (Nat.le_refl _) _
 generalize hW1 : W.alloc (.cells #[.string nm, .int .i64 kd, .int .i64 mt, .int .i64 sc, .int .i64 cp, .int .i64 fl, .slice A ns.length c, .slice B mxs.length e0] 46) = W1 at *
 have HW := Lib.hid hW1
 have HX := Lib.hid (show W1.heap[W.heap.size]? = some (Ref08.XB ⟨nm, kd, mt, sc, cp, fl, A, c, ns, B, e0, mxs⟩) ∧ Below W.heap.size W W1 from ⟨bK, hW0⟩)
 obtain ⟨ad, e1, c0, c1, c2, c3, c4, c5, c6⟩ := at_T77 h.a 0 (by omega) (by simp only; omega)
 simp only at e1
 cases e1
 rw [show (0 : Int).toNat * 7 = 0 from rfl] at c3 c4
 have c3 : W.cell? ⟨ad.block, ad.off + 3, none⟩ = _ := c3
 have c4 : W.cell? ⟨ad.block, ad.off + 4, none⟩ = _ := c4
 have HC0 := Lib.hid (And.intro c3 c4)
 clear hW1 hW0 bK h hl c0 c1 c2 c3 c4 c5 c6
 go_enter Try.func44, Try.ntmps44
 go_upto_region 1 with (fail)
 rw [HW.out]
 go_upto_region 2 with (first | ((with_reducible refine gate_dst (N := 17) rfl ?_); refine Kd.R_lit (Kd.int .i64) W.heap.size 3 ?hg (N := 17) ?hd (xs := ([] : List Int)) (inner := []) (ok := fun _ => True) (okp := fun _ => True) ?hr ?hp (fun _ hk => hk) trivial HX.out.2 HX.out.2.size (by simp) ?_; (case hd => rfl); (case hg => rfl); (case hr => first | (go_simp; done) | (go_simp; rfl)); (case hp => exact (Reps.none _ _)); intro u6 w0 ho hb hg hnew; have H0 := Aside0.mk (show SI ⟨nm, kd, mt, sc, cp, fl, some ad, c, ns, B, e0, mxs⟩ W u6 [] w0 from ⟨blk_grown HX.out.1 hg (by simp), ho, hb⟩); clear hg hnew ho hb))
 by_cases hl0 : l = []
 ·have b0 : ((l.length : Int) == 0) = true := by rw [hl0]; rfl
  have HE := Lib.hid (HD.out.trans (if_pos hl0))
  clear hl0 HD
  go_wp2
  refine ⟨rfl, .tuple #[u6, .int .i64 (-1)], ?_, u6, by rw [HE.out], by rw [HE.out]; exact H0.out.2.1, H0.out.2.2⟩
  simp [results, Try.f44, go_sem]
 have b0 : ((l.length : Int) == 0) = false := beq_eq_false_iff_ne.2 (fun h => hl0 (List.length_eq_zero_iff.1 (by omega)))
 have HD := Lib.hid (HD.out.trans (if_neg hl0))
 clear hl0
 go_upto_region 4 with (fail)
 obtain ⟨k0, k1, k2, k3, k4, k5, k6, k7⟩ := H0.out.cells
 simp only at k0 k1 k2 k3 k4 k5 k6 k7
 go_wp2_with fail
 refine (HN.out _ H0.out.2.2).mono ?_
 rintro e w2 ⟨rfl, hb⟩
 have H1 := Aside0.mk (H0.out.below hb)
 clear hb k0 k1 k2 k3 k4 k5 k6 k7 H0 HN b0
 cases hnb : nodesB ns.length l with
 | false =>
  have HE := Lib.hid (HD.out.trans (if_neg (by rw [hnb]; exact Bool.false_ne_true)))
  clear hnb HD
  go_wp2
  refine ⟨rfl, .tuple #[u6, .int .i64 0], ?_, u6, by rw [HE.out], by rw [HE.out]; exact H1.out.2.1, H1.out.2.2⟩
  simp [results, Try.f44, go_sem]
 | true =>
  have HIn := Lib.hid (nodes_in hnb)
  have HD := Lib.hid (HD.out.trans (if_pos hnb))
  clear hnb
  go_upto_region 6 with (fail)
  obtain ⟨k0, k1, k2, k3, k4, k5, k6, k7⟩ := H1.out.cells
  simp only at k0 k1 k2 k3 k4 k5 k6 k7
  go_wp2_with fail
  refine (HU.out _ H1.out.2.2).mono ?_
  rintro e w3 ⟨rfl, hb⟩
  have H2 := Aside0.mk (H1.out.below hb)
  clear hb k0 k1 k2 k3 k4 k5 k6 k7 H1 HU
  obtain ⟨-, -, -, -, -, -, k6, -⟩ := H2.out.cells
  simp only at k6
  have c3 := old_cell H2.out.2.2 HC0.out.1
  have p0 : (0 : Int) ≤ 0 ∧ (0 : Int) < (ns.length : Int) := by omega
  obtain ⟨z0, hz0⟩ : ∃ z, wrap64 (u * (rd_T77 ns 0).f3) = z := ⟨_, rfl⟩
  have hz0w := w_i _ _ hz0
  have HZ0 := Lib.hid hz0
  clear hz0
  have HI0 : Aside0 (SI ⟨nm, kd, mt, sc, cp, fl, some ad, c, ns, B, e0, mxs⟩ W u6 (alongR lg ns u (l.take 0)).out w3 ∧ (alongR lg ns u (l.take 0)).at_ < ns.length ∧ (alongR lg ns u (l.take 0)).i = 0 ∧ (alongR lg ns u (l.take 0)).out.length = 0) := ⟨H2.out, hn0, rfl, rfl⟩
  clear H2
  go_upto_region 10 with (fail)
  clear k6 c3 p0 hz0w
  go_wp2
  go_loopw [6, 8, 9, 10, 11] (fun v6 v8 v9 v10 v11 wr => ∃ k : Nat, v8 = .int .i64 (alongR lg ns u (l.take k)).late ∧ v9 = .int .i64 ((alongR lg ns u (l.take k)).at_ : Int) ∧ v10 = .int .i64 (alongR lg ns u (l.take k)).now ∧ v11 = .int .i64 k ∧ k ≤ l.length ∧ Aside0 (SI ⟨nm, kd, mt, sc, cp, fl, some ad, c, ns, B, e0, mxs⟩ W v6 (alongR lg ns u (l.take k)).out wr ∧ (alongR lg ns u (l.take k)).at_ < ns.length ∧ (alongR lg ns u (l.take k)).i = k ∧ (alongR lg ns u (l.take k)).out.length = k)) (fun v6 v8 v9 v10 v11 wr => l.length - (intOf v11).toNat)
  case atStart => exact ⟨0, rfl, rfl, by rw [← HZ0.out]; rfl, rfl, Nat.zero_le _, HI0⟩
  case round =>
   obtain ⟨k, rfl, rfl, rfl, rfl, hk, HK⟩ := hrel
   clear HI0 HZ0
   by_cases hlt : k < l.length
   ·have bt : decide ((k : Int) < (l.length : Int)) = true := decide_eq_true (by omega)
    obtain ⟨al, e1, clW⟩ := Kd.at_int HL.out (k : Int) (by omega) (by omega)
    cases e1
    rw [Int.toNat_natCast] at clW
    have p1 : (0 : Int) ≤ (k : Int) ∧ (k : Int) < (l.length : Int) := by omega
    have hst := alongR_step lg ns u l hlt
    have hin := HIn.out l[k] (List.getElem_mem _)
    rw [rd_at hlt] at clW
    obtain ⟨s, hs⟩ : ∃ s : Nat, l[k] = (s : Int) := ⟨l[k].toNat, by omega⟩
    rw [hs] at clW hin hst
    have cl := old_cell HK.out.1.2.2 clW
    have HClW := Lib.hid clW
    clear clW
    unfold stepR rdN at hst
    rw [Int.toNat_natCast] at hst
    have HST := Lib.hid hst
    clear hst
    generalize alongR lg ns u (l.take k) = r at *
    obtain ⟨ad2, e2, d0, d1, d2, d3, d4, d5, d6⟩ := at_T77 (Kd.C_below HR.out.a HK.out.1.2.2) (s : Int) (by omega) (by simp only; omega)
    simp only at e2
    cases e2
    rw [Int.toNat_natCast] at d0 d1 d2 d3 d4 d5 d6
    have p2 : (0 : Int) ≤ (s : Int) ∧ (s : Int) < (ns.length : Int) := by omega
    simp only at d0 d1 d2 d3 d4 d5 d6
    generalize rd_T77 ns (s : Int) = d at *
    obtain ⟨-, -, -, -, -, -, k6, -⟩ := HK.out.1.cells
    simp only at k6
    clear hs
    obtain ⟨w5, hw5⟩ : ∃ w5, (wr.alloc (.cells #[.int .i64 0, .int .i64 0, .int .i64 0, .int .i64 0, .int .i64 0, .int .i64 0, .int .i64 0] 77)).drew = w5 := ⟨_, rfl⟩
    have hb5 : Below wr.heap.size wr w5 := hw5 ▸ below_drew1 ((Below.refl _ wr).alloc (Nat.le_refl _) _)
    have k6' := old_cell hb5 k6
    have cl' := old_cell hb5 cl
    have d0' := old_cell hb5 d0
    have d1' := old_cell hb5 d1
    have d2' := old_cell hb5 d2
    have d3' := old_cell hb5 d3
    have d4' := old_cell hb5 d4
    have d5' := old_cell hb5 d5
    have d6' := old_cell hb5 d6
    rw [← hw5] at k6' cl' d0' d1' d2' d3' d4' d5' d6'
    clear hb5 hw5
    go_wp2
    go_region
    go_upto_region 14 with (fail)
    obtain ⟨w7, hw7⟩ : ∃ w7, (wr.alloc (.cells #[.int .i64 d.f0, .int .i64 d.f1, .int .i64 d.f2, .int .i64 d.f3, .int .i64 d.f4, .int .i64 d.f5, .int .i64 d.f6] 77)).drew = w7 := ⟨_, rfl⟩
    have hb7 : Below wr.heap.size wr w7 := hw7 ▸ below_drew1 ((Below.refl _ wr).alloc (Nat.le_refl _) _)
    have bD7 : w7.heap[wr.heap.size]? = _ := hw7 ▸ blk_drew (heap_alloc_new wr (.cells #[.int .i64 d.f0, .int .i64 d.f1, .int .i64 d.f2, .int .i64 d.f3, .int .i64 d.f4, .int .i64 d.f5, .int .i64 d.f6] 77))
    rw [hw7]
    clear hw7 d0 d1 d2 d3 d4 d5 d6 d0' d1' d2' d3' d4' d5' d6' k6 k6' cl'
    have HD7 := Lib.hid bD7
    have cl7 := old_cell hb7 cl
    have HK7 := Lib.hid (HK.out.1.below hb7)
    have HKn := Lib.hid HK.out.2
    clear HK hb7 bD7 cl
    generalize wr.heap.size = Bd at *
    obtain ⟨r2, hBT⟩ := HBT.out r.at_ s HKn.out.1 (by omega)
    have HB2 := Lib.hid (fun W' (hb : Below w7.heap.size w7 W') => hBT W' (below_step HK7.out.2.2 hb))
    clear hBT
    have HS := Lib.hid (show ∀ w', Below w7.heap.size w7 w' → (w'.cell? ⟨W.heap.size, 0, none⟩ = some (.string nm) ∧ w'.cell? ⟨W.heap.size, 1, none⟩ = some (.int .i64 kd) ∧ w'.cell? ⟨W.heap.size, 2, none⟩ = some (.int .i64 mt) ∧ w'.cell? ⟨W.heap.size, 3, none⟩ = some (.int .i64 sc) ∧ w'.cell? ⟨W.heap.size, 4, none⟩ = some (.int .i64 cp) ∧ w'.cell? ⟨W.heap.size, 5, none⟩ = some (.int .i64 fl) ∧ w'.cell? ⟨W.heap.size, 6, none⟩ = some (.slice (some ad) ns.length c) ∧ w'.cell? ⟨W.heap.size, 7, none⟩ = some (.slice B mxs.length e0) ∧ w'.cell? (al.add k) = some (.int .i64 (s : Int)) ∧ Below w7.heap.size w7 w') from fun w' hb => by
     obtain ⟨x0, x1, x2, x3, x4, x5, x6, x7⟩ := (HK7.out.below hb).cells
     exact ⟨x0, x1, x2, x3, x4, x5, x6, x7, old_cell hb cl7, hb⟩)
    clear cl7
    -- REGION
    refine start_ (n := 12) (S := fun w' => w'.cell? ⟨W.heap.size, 0, none⟩ = some (.string nm) ∧ w'.cell? ⟨W.heap.size, 1, none⟩ = some (.int .i64 kd) ∧ w'.cell? ⟨W.heap.size, 2, none⟩ = some (.int .i64 mt) ∧ w'.cell? ⟨W.heap.size, 3, none⟩ = some (.int .i64 sc) ∧ w'.cell? ⟨W.heap.size, 4, none⟩ = some (.int .i64 cp) ∧ w'.cell? ⟨W.heap.size, 5, none⟩ = some (.int .i64 fl) ∧ w'.cell? ⟨W.heap.size, 6, none⟩ = some (.slice (some ad) ns.length c) ∧ w'.cell? ⟨W.heap.size, 7, none⟩ = some (.slice B mxs.length e0) ∧ w'.cell? (al.add k) = some (.int .i64 (s : Int)) ∧ Below w7.heap.size w7 w') (ds := []) #[false, false, false, false, false, false, false, false, false, false, false, false] (by kernel_rfl) rfl rfl (HS.out _ (below_drew1 (Below.refl _ _))) (fun hHeld => ?_)
    refine pure_ (i := 1) (N := some 52) (v := ?_) (a' := ?_) #[false, true, false, false, false, false, false, false, false, false, false, false] rfl rfl (by kernel_rfl) (fun _ _ _ h => h) (Or.inl ⟨by rfl, ?_⟩) ?_ ?_
    rotate_left
    ·intro w'
     go_simp
     with_reducible rfl
    rotate_left
    ·simp only [Act.put, z1_, z2_, z3_, i64_w, i32_w]
     rfl
    refine pure_ (i := 2) (N := some 53) (v := ?_) (a' := ?_) #[false, true, true, false, false, false, false, false, false, false, false, false] rfl rfl (by kernel_rfl) (fun _ _ _ h => h) (Or.inl ⟨by rfl, ?_⟩) ?_ ?_
    rotate_left
    ·intro w'
     go_simp
     with_reducible rfl
    rotate_left
    ·simp only [Act.put, z1_, z2_, z3_, i64_w, i32_w]
     rfl
    refine pure_ (i := 3) (N := some 54) (v := ?_) (a' := ?_) #[false, true, true, true, false, false, false, false, false, false, false, false] rfl rfl (by kernel_rfl) (fun _ _ _ h => h) (Or.inl ⟨by rfl, ?_⟩) ?_ ?_
    rotate_left
    ·intro w'
     go_simp
     with_reducible rfl
    rotate_left
    ·simp only [Act.put, z1_, z2_, z3_, i64_w, i32_w]
     rfl
    refine pure_ (i := 4) (N := some 55) (v := ?_) (a' := ?_) #[false, true, true, true, true, false, false, false, false, false, false, false] rfl rfl (by kernel_rfl) (fun _ _ _ h => h) (Or.inl ⟨by rfl, ?_⟩) ?_ ?_
    rotate_left
    ·intro w'
     go_simp
     with_reducible rfl
    rotate_left
    ·simp only [Act.put, z1_, z2_, z3_, i64_w, i32_w]
     rfl
    refine take_ (i := 0) (N := some 51) (v := ?_) (a' := ?_) #[true, true, true, true, true, false, false, false, false, false, false, false] rfl rfl (by kernel_rfl) (fun _ _ _ h => h) (Or.inl ⟨by rfl, ?_⟩) hHeld ?_ ?_
    rotate_left
    ·rintro w' ⟨s0, s1, s2, s3, s4, s5, s6, s7, s8, s9⟩
     go_simp
     with_reducible rfl
    rotate_left
    ·simp only [Act.put, z1_, z2_, z3_, i64_w, i32_w]
     rfl
    refine take_ (i := 5) (N := some 56) (v := ?_) (a' := ?_) #[true, true, true, true, true, true, false, false, false, false, false, false] rfl rfl (by kernel_rfl) (fun _ _ _ h => h) (Or.inl ⟨by rfl, ?_⟩) hHeld ?_ ?_
    rotate_left
    ·rintro w' ⟨s0, s1, s2, s3, s4, s5, s6, s7, s8, s9⟩
     go_simp
     with_reducible rfl
    rotate_left
    ·simp only [Act.put, z1_, z2_, z3_, i64_w, i32_w]
     rfl
    refine one_ (i := 6) (N := some 57) #[true, true, true, true, true, true, true, false, false, false, false, false] rfl rfl (by kernel_rfl) (by decide) (fun K hK => ?_)
    have hbl := hHeld.2.2.2.2.2.2.2.2.2
    refine goes_ Try.func61 (by kernel_rfl) rfl #[.agg #[.string nm, .int .i64 kd, .int .i64 mt, .int .i64 sc, .int .i64 cp, .int .i64 fl, .slice (some ad) ns.length c, .slice B mxs.length e0], .int .i64 (r.at_ : Int), .int .i64 (s : Int)] (by rfl) rfl rfl (by simp only [List.map_toArray, List.map_cons, List.map_nil]; rfl) ?_
    with_reducible refine (HB2.out _ hbl).mono ?_
    rintro e w3 ⟨rfl, hb⟩
    refine ⟨_, rfl, ?_⟩
    have hb3 := hbl.trans (hb.mono hbl.size)
    clear hb hbl
    refine hK.out _ _ (HS.out _ hb3) (fun hHeld => ?_)
    clear hK K
    refine norm_ (a' := ?_) ?_ ?_
    rotate_left
    ·show Act.put _ (some 57) _ = _
     simp only [Act.put, z1_, z2_, z3_, i64_w, i32_w]
     rfl
    refine pure_ (i := 7) (N := some 50) (v := ?_) (a' := ?_) #[true, true, true, true, true, true, true, true, false, false, false, false] rfl rfl (by kernel_rfl) (fun _ _ _ h => h) (Or.inl ⟨by rfl, ?_⟩) ?_ ?_
    rotate_left
    ·intro w'
     go_simp
     with_reducible rfl
    rotate_left
    ·simp only [Act.put, z1_, z2_, z3_, i64_w, i32_w]
     rfl
    refine pure_ (i := 8) (N := some 58) (v := ?_) (a' := ?_) #[true, true, true, true, true, true, true, true, true, false, false, false] rfl rfl (by kernel_rfl) (fun _ _ _ h => h) (Or.inl ⟨by rfl, ?_⟩) ?_ ?_
    rotate_left
    ·intro w'
     go_simp
     with_reducible rfl
    rotate_left
    ·simp only [Act.put, z1_, z2_, z3_, i64_w, i32_w]
     rfl
    refine pure_ (i := 9) (N := some 59) (v := ?_) (a' := ?_) #[true, true, true, true, true, true, true, true, true, true, false, false] rfl rfl (by kernel_rfl) (fun _ _ _ h => h) (Or.inl ⟨by rfl, ?_⟩) ?_ ?_
    rotate_left
    ·intro w'
     go_simp
     with_reducible rfl
    rotate_left
    ·simp only [Act.put, z1_, z2_, z3_, i64_w, i32_w]
     rfl
    refine pure_ (i := 10) (N := some 13) (v := ?_) (a' := ?_) #[true, true, true, true, true, true, true, true, true, true, true, false] rfl rfl (by kernel_rfl) (fun _ _ _ h => h) (Or.inl ⟨by rfl, ?_⟩) ?_ ?_
    rotate_left
    ·intro w'
     go_simp
     with_reducible rfl
    rotate_left
    ·simp only [Act.put, z1_, z2_, z3_, i64_w, i32_w]
     rfl
    refine pure_ (i := 11) (N := some 14) (v := ?_) (a' := ?_) #[true, true, true, true, true, true, true, true, true, true, true, true] rfl rfl (by kernel_rfl) (fun _ _ _ h => h) (Or.inl ⟨by rfl, ?_⟩) ?_ ?_
    rotate_left
    ·intro w'
     go_simp
     with_reducible rfl
    rotate_left
    ·simp only [Act.put, z1_, z2_, z3_, i64_w, i32_w]
     rfl
    refine done_ (by kernel_rfl) ?_
    -- BEHIND
    have H3 : SI ⟨nm, kd, mt, sc, cp, fl, some ad, c, ns, B, e0, mxs⟩ W u6 r.out w3 ∧ w3.heap[Bd]? = some (.cells #[.int .i64 d.f0, .int .i64 d.f1, .int .i64 d.f2, .int .i64 d.f3, .int .i64 d.f4, .int .i64 d.f5, .int .i64 d.f6] 77 (0, 0)) := ⟨HK7.out.below hb3, blk_below HD7.out hb3⟩
    clear hb3 HS HB2 HK7 HD7
    obtain ⟨n1, hn1⟩ : ∃ n1, wrap64 (r.now + lg r.at_ s) = n1 := ⟨_, rfl⟩
    obtain ⟨z, hz⟩ : ∃ z, wrap64 (u * d.f3) = z := ⟨_, rfl⟩
    obtain ⟨z4, hz4⟩ : ∃ z, wrap64 (u * d.f4) = z := ⟨_, rfl⟩
    obtain ⟨z5, hz5⟩ : ∃ z, wrap64 (u * d.f5) = z := ⟨_, rfl⟩
    obtain ⟨m, hm⟩ : ∃ m, (if n1 < z then z else n1) = m := ⟨_, rfl⟩
    obtain ⟨m2, hm2⟩ : ∃ z, wrap64 (m + z5) = z := ⟨_, rfl⟩
    have HST2 := Lib.hid (show alongR lg ns u (l.take (k + 1)) = ⟨s, m2, if r.late < 0 ∧ m > z4 then (r.i : Int) else r.late, r.i + 1, r.out ++ [m]⟩ from by
     rw [HST.out, hn1, hz, show mx n1 z = m from hm, hz4, hz5, hm2])
    have hn1w := w_i _ _ hn1
    have hzw := w_i _ _ hz
    have hz4w := w_i _ _ hz4
    have hz5w := w_i _ _ hz5
    have hm2w := w_i _ _ hm2
    have HN5 := Lib.hid (And.intro hz5w hm2w)
    have HN4 := Lib.hid hz4w
    clear hn1 hz hz4 hz5 hm2 HST hz5w hm2w hz4w
    obtain ⟨-, -, -, d3, d4, -⟩ := blk7_ H3.2
    go_upto_region 16 with (fail)
    have hz4w := HN4.out
    clear hm hn1w hzw d3 HN4
    obtain ⟨q, hq⟩ : ∃ q, decide (r.late < 0 ∧ m > z4) = q := ⟨_, rfl⟩
    have HQ := Lib.hid hq
    clear hq
    go_cut [77] (fun v77 wc => v77 = .bool q ∧ Aside0 (SI ⟨nm, kd, mt, sc, cp, fl, some ad, c, ns, B, e0, mxs⟩ W u6 r.out wc ∧ wc.heap[Bd]? = some (.cells #[.int .i64 d.f0, .int .i64 d.f1, .int .i64 d.f2, .int .i64 d.f3, .int .i64 d.f4, .int .i64 d.f5, .int .i64 d.f6] 77 (0, 0))))
    case first => as_aux_lemma =>
     by_cases h1 : r.late < 0
     ·have b1 : decide (r.late < 0) = true := decide_eq_true h1
      by_cases h2 : m > z4
      ·have b2 : decide (m > z4) = true := decide_eq_true h2
       have HV := Lib.hid (show q = true from HQ.out.symm.trans <| decide_eq_true ⟨h1, h2⟩)
       clear h1 h2
       go_wp2
       go_meet
       exact ⟨by rw [HV.out], ⟨H3⟩⟩
      ·have b2 : decide (m > z4) = false := decide_eq_false h2
       have HV := Lib.hid (show q = false from HQ.out.symm.trans <| decide_eq_false fun e => h2 e.2)
       clear h1 h2
       go_wp2
       go_meet
       exact ⟨by rw [HV.out], ⟨H3⟩⟩
     ·have b1 : decide (r.late < 0) = false := decide_eq_false h1
      have HV := Lib.hid (show q = false from HQ.out.symm.trans <| decide_eq_false fun e => h1 e.1)
      clear h1
      go_wp2
      go_meet
      exact ⟨by rw [HV.out], ⟨H3⟩⟩
    rename_i wc
    obtain ⟨rfl, H4⟩ := hcut
    clear H3 d4 hz4w
    have hz5w := HN5.out.1
    have hm2w := HN5.out.2
    cases q with
    | true =>
     have hc := of_decide_eq_true HQ.out
     clear HQ
     have E := Lib.hid (show alongR lg ns u (l.take (k + 1)) = ⟨s, m2, (k : Int), k + 1, r.out ++ [m]⟩ from by rw [HST2.out, HKn.out.2.1, if_pos hc])
     clear hc
     go_wp2_with (first | ((with_reducible refine gate_builtin (b := .append) (xs := #[.tmp 79, .tmp 81]) rfl ?_); at_builtin; refine Kd.R_append (Kd.int .i64) (w0 := W) W.heap.size rfl (.tmp 79) (.tmp 81) 23 3 (.int .i64 0) 8 rfl Try.underlying23 P.info3 rfl (by decide) (by omega) u6 r.out m [.int .i64 m] (fun _ => True) (fun _ => False) rfl rfl rfl (fun _ hk => hk.elim) (fun _ _ => trivial) H4.out.1.2.1 H4.out.1.2.2 H4.out.1.2.2.size ?aL ?_; (case aL => have := HKn.out.2.2; omega); intro va wa ho hb hg hat; have HJ := Aside0.mk (H4.out.1.app ho hb hg); have hDJ := blk_grown H4.out.2 hg (Kd.R_ne H4.out.1.2.1 H4.out.2 (by decide)); have cJ := old_cell hb HClW.out; obtain ⟨-, -, -, -, -, dj5, -⟩ := blk7_ hDJ; clear ho hb hg hat hDJ))
     go_roundw
     case rel => exact ⟨k + 1, by rw [E.out], by rw [E.out], by rw [E.out], by go_num, by omega, ⟨by rw [E.out]; exact ⟨HJ.out, by simp only; omega, rfl, by simp [HKn.out.2.2]⟩⟩⟩
     case measure => simp [intOf]; omega
    | false =>
     have hc := of_decide_eq_false HQ.out
     clear HQ
     have E := Lib.hid (show alongR lg ns u (l.take (k + 1)) = ⟨s, m2, r.late, k + 1, r.out ++ [m]⟩ from by rw [HST2.out, HKn.out.2.1, if_neg hc])
     clear hc
     go_wp2_with (first | ((with_reducible refine gate_builtin (b := .append) (xs := #[.tmp 79, .tmp 81]) rfl ?_); at_builtin; refine Kd.R_append (Kd.int .i64) (w0 := W) W.heap.size rfl (.tmp 79) (.tmp 81) 23 3 (.int .i64 0) 8 rfl Try.underlying23 P.info3 rfl (by decide) (by omega) u6 r.out m [.int .i64 m] (fun _ => True) (fun _ => False) rfl rfl rfl (fun _ hk => hk.elim) (fun _ _ => trivial) H4.out.1.2.1 H4.out.1.2.2 H4.out.1.2.2.size ?aL ?_; (case aL => have := HKn.out.2.2; omega); intro va wa ho hb hg hat; have HJ := Aside0.mk (H4.out.1.app ho hb hg); have hDJ := blk_grown H4.out.2 hg (Kd.R_ne H4.out.1.2.1 H4.out.2 (by decide)); have cJ := old_cell hb HClW.out; obtain ⟨-, -, -, -, -, dj5, -⟩ := blk7_ hDJ; clear ho hb hg hat hDJ))
     go_roundw
     case rel => exact ⟨k + 1, by rw [E.out], by rw [E.out], by rw [E.out], by go_num, by omega, ⟨by rw [E.out]; exact ⟨HJ.out, by simp only; omega, rfl, by simp [HKn.out.2.2]⟩⟩⟩
     case measure => simp [intOf]; omega
   ·have bt : decide ((k : Int) < (l.length : Int)) = false := decide_eq_false (by omega)
    obtain rfl : k = l.length := by omega
    have HD := Lib.hid HD.out
    rw [List.take_length] at HK ⊢
    generalize alongR lg ns u l = r at *
    go_upto_region 21 with (fail)
    obtain ⟨k0, k1, k2, k3, k4, k5, k6, k7⟩ := HK.out.1.cells
    simp only at k0 k1 k2 k3 k4 k5 k6 k7
    obtain ⟨r2, hBT⟩ := HBT.out r.at_ 0 HK.out.2.1 hn0
    simp only [Int.natCast_zero] at hBT
    have HB2 := Lib.hid hBT
    clear hBT
    go_wp2_with fail
    refine (HB2.out _ HK.out.1.2.2).mono ?_
    rintro e w8 ⟨rfl, hb⟩
    have H8 := Aside0.mk (HK.out.1.below hb)
    clear hb k0 k1 k2 k3 k4 k5 k6 k7 HK HB2 HBT
    obtain ⟨-, -, -, -, -, -, k6, -⟩ := H8.out.cells
    simp only at k6
    have c4 := old_cell H8.out.2.2 HC0.out.2
    have p0 : (0 : Int) ≤ 0 ∧ (0 : Int) < (ns.length : Int) := by omega
    obtain ⟨n1, hn1⟩ : ∃ n1, wrap64 (r.now + lg r.at_ 0) = n1 := ⟨_, rfl⟩
    obtain ⟨z4, hz4⟩ : ∃ z, wrap64 (u * (rd_T77 ns 0).f4) = z := ⟨_, rfl⟩
    have HD := Lib.hid (show res = (r.out, if r.late < 0 ∧ n1 > z4 then (l.length : Int) else r.late) from by rw [← hn1, ← hz4]; exact HD.out)
    have hn1w := w_i _ _ hn1
    have hz4w := w_i _ _ hz4
    clear hn1 hz4
    by_cases h1 : r.late < 0
    ·have b1 : decide (r.late < 0) = true := decide_eq_true h1
     by_cases h2 : n1 > z4
     ·have b2 : decide (n1 > z4) = true := decide_eq_true h2
      have HE := Lib.hid (HD.out.trans (by rw [if_pos ⟨h1, h2⟩]))
      clear HD h1 h2
      go_wp2
      refine ⟨rfl, .tuple #[u6, .int .i64 (l.length)], ?_, u6, by rw [HE.out], by rw [HE.out]; exact H8.out.2.1, H8.out.2.2⟩
      simp [results, Try.f44, go_sem]
     ·have b2 : decide (n1 > z4) = false := decide_eq_false h2
      have HE := Lib.hid (HD.out.trans (by rw [if_neg fun e => h2 e.2]))
      clear HD h1 h2
      go_wp2
      refine ⟨rfl, .tuple #[u6, .int .i64 (r.late)], ?_, u6, by rw [HE.out], by rw [HE.out]; exact H8.out.2.1, H8.out.2.2⟩
      simp [results, Try.f44, go_sem]
    ·have b1 : decide (r.late < 0) = false := decide_eq_false h1
     have HE := Lib.hid (HD.out.trans (by rw [if_neg fun e => h1 e.1]))
     clear HD h1
     go_wp2
     refine ⟨rfl, .tuple #[u6, .int .i64 (r.late)], ?_, u6, by rw [HE.out], by rw [HE.out]; exact H8.out.2.1, H8.out.2.2⟩
     simp [results, Try.f44, go_sem]
end Ref11
end Go.Proofs.Ytlncbckpcmojpaa
namespace Go.Proofs.Ytlncbckpcmojpaa
open Go.RowKit Go.Proofs.YtlncbckpcmojpaaW.PrintWords Go.Proofs.YtlncbckpcmojpaaW.PrintLast Go.Proofs.YtlncbckpcmojpaaW.PrintMore P
namespace Ref11
open Ref08 (In rdN)
open FeasWalk (okF dist_some)
theorem legR_some {x : In} (h : okF x.mt x.ns.length x.mx.length = true) {i j : Nat} (hi : i < x.ns.length) (hj : j < x.ns.length) : ∃ r2, legR x i j = some (legV x i j, r2) := by
 have h := of_decide_eq_true h
 unfold legV
 cases hl : legR x i j with
 | some p => exact ⟨p.2, rfl⟩
 | none =>
  unfold legR at hl
  split at hl
  ·rename_i h0
   have h1 := h.2.2 h0
   have h2 : i * x.ns.length + j < x.ns.length * x.ns.length := by
    have : (i + 1) * x.ns.length ≤ x.ns.length * x.ns.length := Nat.mul_le_mul_right _ hi
    rw [Nat.succ_mul] at this
    omega
   rw [if_pos (by omega)] at hl
   cases hl
  ·obtain ⟨a, b, e⟩ := dist_some x.mt x.sc (wrap64 ((rdN x.ns (j : Int)).f0 - (rdN x.ns (i : Int)).f0)) (wrap64 ((rdN x.ns (j : Int)).f1 - (rdN x.ns (i : Int)).f1))
   rw [e] at hl
   cases hl
/-- An instance by its fields alone. -/
def ik (nm : ByteArray) (kd mt sc cp fl : Int) (ns : List Ref08.Node) (mx : List Int) : In := ⟨nm, kd, mt, sc, cp, fl, none, 0, ns, none, 0, mx⟩
end Ref11
namespace P
open FeasWalk (okF)
def entrepotref11_times.f (k : Nat) (nm : ByteArray) (kd mt sc cp fl : Int) (ns : List Ref08.Node) (mx l : List Int) : Option (List Int × Int) := if okF mt ns.length mx.length = true ∧ l.length ≤ 300 then some (Ref11.timesR (Ref11.ik nm kd mt sc cp fl ns mx) l) else none
theorem entrepotref11_times.mono : ∀ a0 a1 a2 a3 a4 a5 a6 a7 a8 k, LeO (entrepotref11_times.f k a0 a1 a2 a3 a4 a5 a6 a7 a8) (entrepotref11_times.f (k + 1) a0 a1 a2 a3 a4 a5 a6 a7 a8) := fun _ _ _ _ _ _ _ _ _ _ => LeO.refl _
theorem entrepotref11_times.calls (k : Nat) (nm : ByteArray) (kd mt sc cp fl : Int) (A : Option Addr) (c : Nat) (ns : List Ref08.Node) (B : Option Addr) (e : Nat) (mx : List Int) (R : Option Addr) (d : Nat) (l : List Int) (r1 : List Int) (r2 : Int) (w : World)
  (h1 : Kd.C k77 w A ns.length ns) (h2 : ns.length ≤ c) (h3 : Kd.C (Kd.int .i64) w B mx.length mx) (h4 : mx.length ≤ e) (h5 : Kd.C (Kd.int .i64) w R l.length l) (_ : l.length ≤ d) (h : entrepotref11_times.f k nm kd mt sc cp fl ns mx l = some (r1, r2)) :
  Calls Try.prog 44 #[.agg #[.string nm, .int .i64 kd, .int .i64 mt, .int .i64 sc, .int .i64 cp, .int .i64 fl, .slice A ns.length c, .slice B mx.length e], .slice R l.length d] w fun e w' => ∃ v0_ : Value, e = .returned (.tuple #[v0_, .int .i64 r2]) ∧ Kd.R (Kd.int .i64) 3 w' w.heap.size (fun _ => True) v0_ r1 ∧ Below w.heap.size w w' := by
 unfold entrepotref11_times.f at h
 split at h
 ·rename_i hs
  have h := Option.some.inj h
  have hok := of_decide_eq_true hs.1
  have e0 : Ref11.timesR ⟨nm, kd, mt, sc, cp, fl, A, c, ns, B, e, mx⟩ l = (r1, r2) := h
  have hc := Ref11.times_c ⟨nm, kd, mt, sc, cp, fl, A, c, ns, B, e, mx⟩ R d l w ⟨h1, h2, h3, h4⟩ (Nat.le_trans hok.1 (by decide)) hok.2.1 h5 (Nat.le_trans hs.2 (by decide)) (fun _ _ hi hj => Ref11.legR_some (x := ⟨nm, kd, mt, sc, cp, fl, A, c, ns, B, e, mx⟩) hs.1 hi hj)
  rw [e0] at hc
  exact hc
 ·cases h
def entrepotref11_Loads.f (k : Nat) (nm : ByteArray) (kd mt sc cp fl : Int) (ns : List Ref08.Node) (mx l : List Int) : Option (List Int) := if l.length ≤ 300 then some (Ref11.loadsR ns l) else none
theorem entrepotref11_Loads.mono : ∀ a0 a1 a2 a3 a4 a5 a6 a7 a8 k, LeO (entrepotref11_Loads.f k a0 a1 a2 a3 a4 a5 a6 a7 a8) (entrepotref11_Loads.f (k + 1) a0 a1 a2 a3 a4 a5 a6 a7 a8) := fun _ _ _ _ _ _ _ _ _ _ => LeO.refl _
theorem entrepotref11_Loads.calls (k : Nat) (nm : ByteArray) (kd mt sc cp fl : Int) (A : Option Addr) (c : Nat) (ns : List Ref08.Node) (B : Option Addr) (e : Nat) (mx : List Int) (R : Option Addr) (d : Nat) (l : List Int) (r : List Int) (w : World)
  (h1 : Kd.C k77 w A ns.length ns) (h2 : ns.length ≤ c) (h3 : Kd.C (Kd.int .i64) w B mx.length mx) (h4 : mx.length ≤ e) (h5 : Kd.C (Kd.int .i64) w R l.length l) (_ : l.length ≤ d) (h : entrepotref11_Loads.f k nm kd mt sc cp fl ns mx l = some r) :
  Calls Try.prog 25 #[.agg #[.string nm, .int .i64 kd, .int .i64 mt, .int .i64 sc, .int .i64 cp, .int .i64 fl, .slice A ns.length c, .slice B mx.length e], .slice R l.length d] w fun e w' => ∃ v0_ : Value, e = .returned v0_ ∧ Kd.R (Kd.int .i64) 3 w' w.heap.size (fun _ => True) v0_ r ∧ Below w.heap.size w w' := by
 unfold entrepotref11_Loads.f at h
 split at h
 ·rename_i hs
  have h := Option.some.inj h
  subst h
  exact Ref11.loads_c ⟨nm, kd, mt, sc, cp, fl, A, c, ns, B, e, mx⟩ R d l w ⟨h1, h2, h3, h4⟩ h5 (Nat.le_trans hs (by decide))
 ·cases h
attribute [irreducible] entrepotref11_times.f entrepotref11_Loads.f
end P
end Go.Proofs.Ytlncbckpcmojpaa
