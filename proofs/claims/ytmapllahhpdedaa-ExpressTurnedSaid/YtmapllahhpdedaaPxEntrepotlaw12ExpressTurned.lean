/- Written by a program of this session, after the kit's print: Lean functions for Go functions, and the proof that the machine comes to their answers. -/
import Derived.Test.YtmapllahhpdedaaPx0
import Derived.Test.YtmapllahhpdedaaGBlk
import Derived.Test.YtmapllahhpdedaaPxEntrepotlaw12long
import Derived.Test.YtmapllahhpdedaaPxEntrepotlaw12shown
import Derived.Test.YtmapllahhpdedaaPxEntrepotlaw12turned
import Derived.Test.YtmapllahhpdedaaPxExpressCan
import Derived.Test.YtmapllahhpdedaaGLacks
namespace Go.Proofs.Ytmapllahhpdedaa.P
open Go.RowKit Go.Proofs.YtmapllahhpdedaaW.PrintWords Go.Proofs.YtmapllahhpdedaaW.PrintLast Go.Proofs.YtmapllahhpdedaaW.PrintMore
attribute [local go_sem] max2_int min2_int max_two min_two max_three min_three max_four min_four   -- for this text's walks alone
set_option linter.unusedVariables false
set_option linter.unusedSimpArgs false

/-! ### entrepotlaw12_ExpressTurned: function 5 -/
mutual
def entrepotlaw12_ExpressTurned.j0 : Nat → Int → Int → Bool → ByteArray → Int → Int → Int → Int → Int → List (S40) → List Int → Option (Bool)
 | 0, _, _, _, _, _, _, _, _, _, _, _ => none
 | k + 1, x2, x7, x23, x296000, x296001, x296002, x296003, x296004, x296005, x296006, x296007 => if x23 = true then ((entrepotlaw12_shown.f).bind fun t298 => (some t298)) else ((express_Lacks.f x7 x296000 x296001 x296002 x296003 x296004 x296005 x296006 x296007).bind fun t299 => (if (t299.length : Int) = 0 then ((express_Can.f x7 x296000 x296001 x296002 x296003 x296004 x296005 x296006 x296007).bind fun t302 => (some t302)) else (entrepotlaw12_ExpressTurned.l0 k x7 t299 (Int.tmod (wrap64 (x2)) (t299.length : Int)) 0 x296000 x296001 x296002 x296003 x296004 x296005 x296006 x296007 x296000 x296001 x296002 x296003 x296004 x296005 x296006 x296007)))
def entrepotlaw12_ExpressTurned.l0 : Nat → Int → List Int → Int → Int → ByteArray → Int → Int → Int → Int → Int → List (S40) → List Int → ByteArray → Int → Int → Int → Int → Int → List (S40) → List Int → Option (Bool)
 | 0, _, _, _, _, _, _, _, _, _, _, _, _, _, _, _, _, _, _, _, _ => none
 | k + 1, x7, x8, x9, x12, x304000, x304001, x304002, x304003, x304004, x304005, x304006, x304007, x305000, x305001, x305002, x305003, x305004, x305005, x305006, x305007 => if x12 < (x8.length : Int) then (if 0 ≤ x12 then ((entrepotlaw12_turned.f k x7 (rd x8 x12) x304000 x304001 x304002 x304003 x304004 x304005 x304006 x304007).bind fun bt312 => (if x12 = x9 then (entrepotlaw12_ExpressTurned.l0 k x7 x8 x9 (wrap64 (x12 + 1)) bt312.1 bt312.2.1 bt312.2.2.1 bt312.2.2.2.1 bt312.2.2.2.2.1 bt312.2.2.2.2.2.1 bt312.2.2.2.2.2.2.1 bt312.2.2.2.2.2.2.2 x305000 x305001 x305002 x305003 x305004 x305005 x305006 x305007) else ((entrepotlaw12_turned.f k x7 (rd x8 x12) x305000 x305001 x305002 x305003 x305004 x305005 x305006 x305007).bind fun bt325 => (entrepotlaw12_ExpressTurned.l0 k x7 x8 x9 (wrap64 (x12 + 1)) bt312.1 bt312.2.1 bt312.2.2.1 bt312.2.2.2.1 bt312.2.2.2.2.1 bt312.2.2.2.2.2.1 bt312.2.2.2.2.2.2.1 bt312.2.2.2.2.2.2.2 bt325.1 bt325.2.1 bt325.2.2.1 bt325.2.2.2.1 bt325.2.2.2.2.1 bt325.2.2.2.2.2.1 bt325.2.2.2.2.2.2.1 bt325.2.2.2.2.2.2.2)))) else (none)) else ((express_Lacks.f x7 x305000 x305001 x305002 x305003 x305004 x305005 x305006 x305007).bind fun t305 => ((express_Can.f x7 x304000 x304001 x304002 x304003 x304004 x304005 x304006 x304007).bind fun t308 => (if t308 = true then (if (t305.length : Int) = 1 then (if 0 < (t305.length : Int) then (if 0 ≤ x9 then (if x9 < (x8.length : Int) then (some ((rd t305 0) == (rd x8 x9))) else (none)) else (none)) else (none)) else (some false)) else (some false))))
end
def entrepotlaw12_ExpressTurned.f (k : Nat) (a0 : Int) (a1_0 : ByteArray) (a1_1 : Int) (a1_2 : Int) (a1_3 : Int) (a1_4 : Int) (a1_5 : Int) (l1_6 : List (S40)) (l1_7 : List Int) (a2 : Int) : Option (Bool) := (entrepotlaw12_long.f a1_0 a1_1 a1_2 a1_3 a1_4 a1_5 l1_6 l1_7).bind fun t296 => (if t296 = true then (entrepotlaw12_ExpressTurned.j0 k a2 (wrap64 (1 + (Int.tmod (wrap64 (a0)) 3))) true a1_0 a1_1 a1_2 a1_3 a1_4 a1_5 l1_6 l1_7) else ((entrepotlaw12_shown.f).bind fun t297 => (entrepotlaw12_ExpressTurned.j0 k a2 (wrap64 (1 + (Int.tmod (wrap64 (a0)) 3))) (!t297) a1_0 a1_1 a1_2 a1_3 a1_4 a1_5 l1_6 l1_7)))
theorem entrepotlaw12_ExpressTurned.mono_l : ∀ k, (∀ y0 y1 y2 y3 y4 y5 y6 y7 y8 y9 y10, LeO (entrepotlaw12_ExpressTurned.j0 k y0 y1 y2 y3 y4 y5 y6 y7 y8 y9 y10) (entrepotlaw12_ExpressTurned.j0 (k + 1) y0 y1 y2 y3 y4 y5 y6 y7 y8 y9 y10)) ∧ (∀ y0 y1 y2 y3 y4 y5 y6 y7 y8 y9 y10 y11 y12 y13 y14 y15 y16 y17 y18 y19, LeO (entrepotlaw12_ExpressTurned.l0 k y0 y1 y2 y3 y4 y5 y6 y7 y8 y9 y10 y11 y12 y13 y14 y15 y16 y17 y18 y19) (entrepotlaw12_ExpressTurned.l0 (k + 1) y0 y1 y2 y3 y4 y5 y6 y7 y8 y9 y10 y11 y12 y13 y14 y15 y16 y17 y18 y19))
 | 0 => ⟨fun _ _ _ _ _ _ _ _ _ _ _ r h => by simp [entrepotlaw12_ExpressTurned.j0] at h, fun _ _ _ _ _ _ _ _ _ _ _ _ _ _ _ _ _ _ _ _ r h => by simp [entrepotlaw12_ExpressTurned.l0] at h⟩
 | k + 1 => by
  obtain ⟨ih0, ih1⟩ := entrepotlaw12_ExpressTurned.mono_l k
  refine ⟨?_, ?_⟩
  ·intro y0 y1 y2 y3 y4 y5 y6 y7 y8 y9 y10
   unfold entrepotlaw12_ExpressTurned.j0
   repeat' first
   | (with_reducible exact ih0 _ _ _ _ _ _ _ _ _ _ _)
   | (with_reducible exact ih1 _ _ _ _ _ _ _ _ _ _ _ _ _ _ _ _ _ _ _ _)
   | (with_reducible exact entrepotlaw12_turned.mono _ _ _ _ _ _ _ _ _ _ _)
   | (with_reducible exact LeO.refl _)
   | (with_reducible exact LeO.none _)
   | (with_reducible refine LeO.ite ?_ ?_)
   | (with_reducible refine LeO.bind ?_ (fun _ => ?_))
   | exact ih0 _ _ _ _ _ _ _ _ _ _ _
   | exact ih1 _ _ _ _ _ _ _ _ _ _ _ _ _ _ _ _ _ _ _ _
   | exact entrepotlaw12_turned.mono _ _ _ _ _ _ _ _ _ _ _
   | exact LeO.none _
   | refine LeO.ite ?_ ?_
   | refine LeO.bind ?_ (fun _ => ?_)
  ·intro y0 y1 y2 y3 y4 y5 y6 y7 y8 y9 y10 y11 y12 y13 y14 y15 y16 y17 y18 y19
   unfold entrepotlaw12_ExpressTurned.l0
   repeat' first
   | (with_reducible exact ih0 _ _ _ _ _ _ _ _ _ _ _)
   | (with_reducible exact ih1 _ _ _ _ _ _ _ _ _ _ _ _ _ _ _ _ _ _ _ _)
   | (with_reducible exact entrepotlaw12_turned.mono _ _ _ _ _ _ _ _ _ _ _)
   | (with_reducible exact LeO.refl _)
   | (with_reducible exact LeO.none _)
   | (with_reducible refine LeO.ite ?_ ?_)
   | (with_reducible refine LeO.bind ?_ (fun _ => ?_))
   | exact ih0 _ _ _ _ _ _ _ _ _ _ _
   | exact ih1 _ _ _ _ _ _ _ _ _ _ _ _ _ _ _ _ _ _ _ _
   | exact entrepotlaw12_turned.mono _ _ _ _ _ _ _ _ _ _ _
   | exact LeO.none _
   | refine LeO.ite ?_ ?_
   | refine LeO.bind ?_ (fun _ => ?_)
theorem entrepotlaw12_ExpressTurned.mono : ∀ a0 a1 a2 a3 a4 a5 a6 a7 a8 a9 k, LeO (entrepotlaw12_ExpressTurned.f k a0 a1 a2 a3 a4 a5 a6 a7 a8 a9) (entrepotlaw12_ExpressTurned.f (k + 1) a0 a1 a2 a3 a4 a5 a6 a7 a8 a9) := by
 intro a0 a1 a2 a3 a4 a5 a6 a7 a8 a9 k
 obtain ⟨ih0, ih1⟩ := entrepotlaw12_ExpressTurned.mono_l k
 unfold entrepotlaw12_ExpressTurned.f
 repeat' first
   | (with_reducible exact ih0 _ _ _ _ _ _ _ _ _ _ _)
   | (with_reducible exact ih1 _ _ _ _ _ _ _ _ _ _ _ _ _ _ _ _ _ _ _ _)
   | (with_reducible exact entrepotlaw12_turned.mono _ _ _ _ _ _ _ _ _ _ _)
   | (with_reducible exact LeO.refl _)
   | (with_reducible exact LeO.none _)
   | (with_reducible refine LeO.ite ?_ ?_)
   | (with_reducible refine LeO.bind ?_ (fun _ => ?_))
   | exact ih0 _ _ _ _ _ _ _ _ _ _ _
   | exact ih1 _ _ _ _ _ _ _ _ _ _ _ _ _ _ _ _ _ _ _ _
   | exact entrepotlaw12_turned.mono _ _ _ _ _ _ _ _ _ _ _
   | exact LeO.none _
   | refine LeO.ite ?_ ?_
   | refine LeO.bind ?_ (fun _ => ?_)
def entrepotlaw12_ExpressTurned.T13 : Bool × List (List Nat × List Nat) := (true, [([], []), ([], []), ([], []), ([1, 2], [1, 2]), ([3], [3]), ([], []), ([0, 4, 5], [0, 4, 5]), ([6, 6, 0, 1, 2, 3, 4, 5, 6], [6])])
def entrepotlaw12_ExpressTurned.B13 : List Nat := [0, 0, 0, 6, 14, 0, 63, 127]
theorem entrepotlaw12_ExpressTurned.tab13 : rtab .any (opsOf Try.f5 13) = entrepotlaw12_ExpressTurned.T13 := by kernel_rfl
theorem entrepotlaw12_ExpressTurned.bits13 : waitsOk entrepotlaw12_ExpressTurned.T13.2 entrepotlaw12_ExpressTurned.B13 = true := by kernel_rfl
def entrepotlaw12_ExpressTurned.T15 : Bool × List (List Nat × List Nat) := (true, [([], []), ([], []), ([], []), ([1, 2], [1, 2]), ([3], [3]), ([], []), ([0, 4, 5], [0, 4, 5]), ([6, 6, 0, 1, 2, 3, 4, 5, 6], [6])])
def entrepotlaw12_ExpressTurned.B15 : List Nat := [0, 0, 0, 6, 14, 0, 63, 127]
theorem entrepotlaw12_ExpressTurned.tab15 : rtab .any (opsOf Try.f5 15) = entrepotlaw12_ExpressTurned.T15 := by kernel_rfl
theorem entrepotlaw12_ExpressTurned.bits15 : waitsOk entrepotlaw12_ExpressTurned.T15.2 entrepotlaw12_ExpressTurned.B15 = true := by kernel_rfl
def entrepotlaw12_ExpressTurned.T17 : Bool × List (List Nat × List Nat) := (true, [([], []), ([], []), ([0, 1], [0, 1]), ([2, 2], [2]), ([3], [3]), ([4, 3], [3, 4]), ([5, 3], [3, 5]), ([3, 6], [3, 6]), ([7, 3], [7]), ([8], [8]), ([9, 8], [8, 9]), ([10, 8], [8, 10]), ([8], [8]), ([8], [8]), ([12, 13, 8], [8, 12, 13]), ([14, 8], [8, 14]), ([11, 15, 8], [8, 11, 15]), ([8, 16], [8, 16]), ([17, 8, 0, 1, 2, 3, 4, 5, 6, 7, 8, 9, 10, 11, 12, 13, 14, 15, 16, 17], [17])])
def entrepotlaw12_ExpressTurned.B17 : List Nat := [0, 0, 3, 7, 15, 31, 63, 127, 255, 511, 1023, 2047, 511, 511, 12799, 29183, 65535, 131071, 262143]
theorem entrepotlaw12_ExpressTurned.tab17 : rtab .any (opsOf Try.f5 17) = entrepotlaw12_ExpressTurned.T17 := by kernel_rfl
theorem entrepotlaw12_ExpressTurned.bits17 : waitsOk entrepotlaw12_ExpressTurned.T17.2 entrepotlaw12_ExpressTurned.B17 = true := by kernel_rfl
set_option maxHeartbeats 8000000 in
set_option maxRecDepth 100000 in
theorem entrepotlaw12_ExpressTurned.callsT (k : Nat) (a0 : Int) (a1_0 : ByteArray) (a1_1 : Int) (a1_2 : Int) (a1_3 : Int) (a1_4 : Int) (a1_5 : Int) (P1_6_ : Nat → Prop) (A1_6 : Option Addr) (c1_6 : Nat) (l1_6 : List (S40)) (P1_7_ : Nat → Prop) (A1_7 : Option Addr) (c1_7 : Nat) (l1_7 : List Int) (a2 : Int) (r : Bool) (w : World) (hs1_6 : Kd.V k40 40 w w.heap.size (fun k_ => P1_6_ k_) (.slice A1_6 l1_6.length c1_6) l1_6) (hs1_7 : Kd.V (Kd.int .i64) 3 w w.heap.size (fun k_ => P1_7_ k_) (.slice A1_7 l1_7.length c1_7) l1_7) (h : entrepotlaw12_ExpressTurned.f k a0 a1_0 a1_1 a1_2 a1_3 a1_4 a1_5 l1_6 l1_7 a2 = some r) (hr_ : Aside0 (r = true)) :
  Calls Try.prog 5 #[.int .u8 a0, .agg #[.string a1_0, .int .i64 a1_1, .int .i64 a1_2, .int .i64 a1_3, .int .i64 a1_4, .int .i64 a1_5, .slice A1_6 l1_6.length c1_6, .slice A1_7 l1_7.length c1_7], .int .u8 a2] w fun e w' => e = .returned (.bool r) ∧ Below w.heap.size w w' := by
 have hu25 := Try.underlying25
 have HO1_6 := Aside0.mk (show Kd.V k40 40 w w.heap.size (fun k_ => ((P1_6_ k_ ∨ P1_7_ k_) ∨ w.heap.size ≤ k_)) (.slice A1_6 l1_6.length c1_6) l1_6 from Kd.V_mono hs1_6 (fun k_ hk => .inl (.inl hk)))
 have HO1_7 := Aside0.mk (show Kd.V (Kd.int .i64) 3 w w.heap.size (fun k_ => ((P1_6_ k_ ∨ P1_7_ k_) ∨ w.heap.size ≤ k_)) (.slice A1_7 l1_7.length c1_7) l1_7 from Kd.V_mono hs1_7 (fun k_ hk => .inl (.inr hk)))
 have HB := Aside0.mk (Below.refl w.heap.size w)
 have H : ((entrepotlaw12_long.f a1_0 a1_1 a1_2 a1_3 a1_4 a1_5 l1_6 l1_7).bind fun t296 => (if t296 = true then (entrepotlaw12_ExpressTurned.j0 k a2 (wrap64 (1 + (Int.tmod (wrap64 (a0)) 3))) true a1_0 a1_1 a1_2 a1_3 a1_4 a1_5 l1_6 l1_7) else ((entrepotlaw12_shown.f).bind fun t297 => (entrepotlaw12_ExpressTurned.j0 k a2 (wrap64 (1 + (Int.tmod (wrap64 (a0)) 3))) (!t297) a1_0 a1_1 a1_2 a1_3 a1_4 a1_5 l1_6 l1_7)))) = some r := h
 clear h
 have HC4 := Aside0.mk H
 clear H
 go_enter Try.func5, Try.ntmps5
 go_upto_region 2 with (first | ((with_reducible refine gate_dst (N := 4) rfl ?_); (try (refine gate_guard (by rfl) ?_; dsimp only)); refine box_event ?hg (N := 4) ?hd (cs := #[.string a1_0, .int .i64 a1_1, .int .i64 a1_2, .int .i64 a1_3, .int .i64 a1_4, .int .i64 a1_5, .slice A1_6 l1_6.length c1_6, .slice A1_7 l1_7.length c1_7]) (t := 25) ?hr ?_; (case hd => rfl); (case hg => rfl); (case hr => first | (go_simp; done) | (go_simp; rfl)); intro gb295 hg w5 hbox hb; have n0_ := Aside0.mk (Kd.V_below (Kd.V_elderB (by (with_reducible repeat (first | apply Kd.V_alloc | apply Kd.V_drewN | apply Kd.V_drew)); exact HO1_6.out) gb295 (Nat.le_of_eq hg.symm)) hb); have n1_ := Aside0.mk (Kd.V_below (Kd.V_elderB (by (with_reducible repeat (first | apply Kd.V_alloc | apply Kd.V_drewN | apply Kd.V_drew)); exact HO1_7.out) gb295 (Nat.le_of_eq hg.symm)) hb); have n2_ := Aside0.mk (below_step (by repeat (first | (with_reducible first | exact HB.out | apply below_alloc | apply pw_below_drewN | apply below_drew1) | exact HB.out)) hb); have n3_ := Aside0.mk (hbox); have n4_ := Aside0.mk ((by rw [hg]; exact (below_size (by repeat (first | (with_reducible first | exact HB.out | apply below_alloc | apply pw_below_drewN | apply below_drew1) | exact HB.out))) : w.heap.size ≤ gb295)); have n5_ := Aside0.mk ((by rw [hg]; exact (below_size (by repeat (first | (with_reducible first | exact HB.out | apply below_alloc | apply pw_below_drewN | apply below_drew1) | exact HB.out))) : w.heap.size ≤ gb295)); clear HO1_6; clear HO1_7; clear HB; have HO1_6 := n0_; have HO1_7 := n1_; have HB := n2_; have BK295 := n3_; have GW295 := n4_; have GE295 := n5_; clear n0_ n1_ n2_ n3_ n4_ n5_; clear hb hbox hg))
 (try simp only [Act.put, List.setIfInBounds_toArray, List.set_cons_zero, List.set_cons_succ])
 go_cut [23] (fun v23 wc => ∃ (kq : Nat) (x23_3 : Bool), v23 = .bool x23_3 ∧ Aside0 (entrepotlaw12_ExpressTurned.j0 kq a2 (wrap64 (1 + (Int.tmod (wrap64 (a0)) 3))) x23_3 a1_0 a1_1 a1_2 a1_3 a1_4 a1_5 l1_6 l1_7 = some r) ∧ Aside0 (kq ≤ k) ∧ Aside0 (Kd.V k40 40 wc w.heap.size (fun k_ => ((P1_6_ k_ ∨ P1_7_ k_) ∨ w.heap.size ≤ k_) ∧ k_ ≠ gb295) (.slice A1_6 l1_6.length c1_6) l1_6) ∧ Aside0 (Kd.V (Kd.int .i64) 3 wc w.heap.size (fun k_ => ((P1_6_ k_ ∨ P1_7_ k_) ∨ w.heap.size ≤ k_) ∧ k_ ≠ gb295) (.slice A1_7 l1_7.length c1_7) l1_7) ∧ Aside0 (wc.heap[gb295]? = some (.cells #[.string a1_0, .int .i64 a1_1, .int .i64 a1_2, .int .i64 a1_3, .int .i64 a1_4, .int .i64 a1_5, (.slice A1_6 l1_6.length c1_6), (.slice A1_7 l1_7.length c1_7)] 25 (0, 0))) ∧ Aside0 (Below w.heap.size w wc))
 case first =>
  have H := HC4.out
  clear HC4
  replace H := Option.bind_eq_some_iff.mp H
  obtain ⟨t296, A60, H⟩ := H
  replace H : (if t296 = true then (entrepotlaw12_ExpressTurned.j0 k a2 (wrap64 (1 + (Int.tmod (wrap64 (a0)) 3))) true a1_0 a1_1 a1_2 a1_3 a1_4 a1_5 l1_6 l1_7) else ((entrepotlaw12_shown.f).bind fun t297 => (entrepotlaw12_ExpressTurned.j0 k a2 (wrap64 (1 + (Int.tmod (wrap64 (a0)) 3))) (!t297) a1_0 a1_1 a1_2 a1_3 a1_4 a1_5 l1_6 l1_7))) = some r := H
  have A6 := Aside0.mk A60
  clear A60
  by_cases c7 : t296 = true
  ·subst c7
   have H1 : (entrepotlaw12_ExpressTurned.j0 k a2 (wrap64 (1 + (Int.tmod (wrap64 (a0)) 3))) true a1_0 a1_1 a1_2 a1_3 a1_4 a1_5 l1_6 l1_7) = some r := by rw [if_pos rfl] at H; exact H
   clear H
   have H := H1
   clear H1
   have H' := Aside0.mk H
   clear H
   obtain ⟨hcz8_0, hcz8_1, hcz8_2, hcz8_3, hcz8_4, hcz8_5, hcz8_6, hcz8_7, hfz8_0, hfz8_1, hfz8_2, hfz8_3, hfz8_4, hfz8_5, hfz8_6, hfz8_7⟩ := blk8_ BK295.out
   go_wp2_with (first | ((with_reducible refine gate_callee (f := 7) rfl ?_); refine goesL_ (some 19) rfl rfl Try.func7 (by kernel_rfl) rfl #[.agg #[.string a1_0, .int .i64 a1_1, .int .i64 a1_2, .int .i64 a1_3, .int .i64 a1_4, .int .i64 a1_5, .slice A1_6 l1_6.length c1_6, .slice A1_7 l1_7.length c1_7]] rfl (by (try simp only [List.map_toArray, List.map_cons, List.map_nil]); first | done | rfl | (simp only [List.length_drop, List.length_take]; rfl)) ?_; (with_reducible refine (entrepotlaw12_long.calls a1_0 a1_1 a1_2 a1_3 a1_4 a1_5 _ _ l1_6 _ _ l1_7 true _ ?side1 ?side2 ?side3 ?side4 A6.out).mono ?_); (case side1 => repeat (first | exact (Kd.V_reads' HO1_6.out).2.2 | (with_reducible refine Kd.C_alloc ?_ _) | (with_reducible refine Kd.C_drewN ?_ _) | (with_reducible refine Kd.C_drew ?_))); (case side2 => exact (Kd.V_reads' HO1_6.out).2.1); (case side3 => repeat (first | exact (Kd.V_reads' HO1_7.out).2.2 | (with_reducible refine Kd.C_alloc ?_ _) | (with_reducible refine Kd.C_drewN ?_ _) | (with_reducible refine Kd.C_drew ?_))); (case side4 => exact (Kd.V_reads' HO1_7.out).2.1); rintro e w9 ⟨rfl, hb⟩; refine ⟨_, rfl, ?_⟩; have n0_ := Aside0.mk (Kd.V_below (by (with_reducible repeat (first | apply Kd.V_alloc | apply Kd.V_drewN | apply Kd.V_drew)); exact HO1_6.out) hb); have n1_ := Aside0.mk (Kd.V_below (by (with_reducible repeat (first | apply Kd.V_alloc | apply Kd.V_drewN | apply Kd.V_drew)); exact HO1_7.out) hb); have n2_ := Aside0.mk (blk_below (g := gb295) (o := .cells #[.string a1_0, .int .i64 a1_1, .int .i64 a1_2, .int .i64 a1_3, .int .i64 a1_4, .int .i64 a1_5, .slice A1_6 l1_6.length c1_6, .slice A1_7 l1_7.length c1_7] 25 (0, 0)) (by (with_reducible repeat (first | refine blk_drewN ?_ _ | refine blk_drew ?_ | refine blk_alloc ?_ _)); exact BK295.out) hb); have n3_ := Aside0.mk (below_step (by repeat (first | (with_reducible first | exact HB.out | apply below_alloc | apply pw_below_drewN | apply below_drew1 | refine below_set ?_ GE295.out) | exact HB.out)) hb); clear HO1_6; clear HO1_7; clear BK295; clear HB; have HO1_6 := n0_; have HO1_7 := n1_; have BK295 := n2_; have HB := n3_; clear n0_ n1_ n2_ n3_; (try clear hb); (try clear hb2); (try clear hk); (try clear hi)))
   go_meet
   case rel => exact ⟨_, (true), (by first | rfl | (simp; done) | (simp [*]; done)), H', ⟨by first | omega | exact Nat.le_refl _⟩, ⟨by (with_reducible repeat (first | apply Kd.V_alloc | apply Kd.V_drewN | apply Kd.V_drew)); exact HO1_6.out⟩, ⟨by (with_reducible repeat (first | apply Kd.V_alloc | apply Kd.V_drewN | apply Kd.V_drew)); exact HO1_7.out⟩, ⟨by (with_reducible repeat (first | refine blk_drewN ?_ _ | refine blk_drew ?_ | refine blk_alloc ?_ _)); exact BK295.out⟩, ⟨by repeat (first | (with_reducible first | exact HB.out | apply below_alloc | apply pw_below_drewN | apply below_drew1 | refine below_set ?_ GE295.out) | exact HB.out)⟩⟩
  ·replace c7 := Bool.eq_false_iff.mpr c7
   subst c7
   have H1 : ((entrepotlaw12_shown.f).bind fun t297 => (entrepotlaw12_ExpressTurned.j0 k a2 (wrap64 (1 + (Int.tmod (wrap64 (a0)) 3))) (!t297) a1_0 a1_1 a1_2 a1_3 a1_4 a1_5 l1_6 l1_7)) = some r := by rw [if_neg (show ¬ (false = true) by decide)] at H; exact H
   clear H
   have H := H1
   clear H1
   replace H := Option.bind_eq_some_iff.mp H
   obtain ⟨t297, A100, H⟩ := H
   replace H : (entrepotlaw12_ExpressTurned.j0 k a2 (wrap64 (1 + (Int.tmod (wrap64 (a0)) 3))) (!t297) a1_0 a1_1 a1_2 a1_3 a1_4 a1_5 l1_6 l1_7) = some r := H
   have A10 := Aside0.mk A100
   clear A100
   have H' := Aside0.mk H
   clear H
   obtain ⟨hcz11_0, hcz11_1, hcz11_2, hcz11_3, hcz11_4, hcz11_5, hcz11_6, hcz11_7, hfz11_0, hfz11_1, hfz11_2, hfz11_3, hfz11_4, hfz11_5, hfz11_6, hfz11_7⟩ := blk8_ BK295.out
   go_wp2_with (first | ((with_reducible refine gate_callee (f := 7) rfl ?_); refine goesL_ (some 19) rfl rfl Try.func7 (by kernel_rfl) rfl #[.agg #[.string a1_0, .int .i64 a1_1, .int .i64 a1_2, .int .i64 a1_3, .int .i64 a1_4, .int .i64 a1_5, .slice A1_6 l1_6.length c1_6, .slice A1_7 l1_7.length c1_7]] rfl (by (try simp only [List.map_toArray, List.map_cons, List.map_nil]); first | done | rfl | (simp only [List.length_drop, List.length_take]; rfl)) ?_; (with_reducible refine (entrepotlaw12_long.calls a1_0 a1_1 a1_2 a1_3 a1_4 a1_5 _ _ l1_6 _ _ l1_7 false _ ?side1 ?side2 ?side3 ?side4 A6.out).mono ?_); (case side1 => repeat (first | exact (Kd.V_reads' HO1_6.out).2.2 | (with_reducible refine Kd.C_alloc ?_ _) | (with_reducible refine Kd.C_drewN ?_ _) | (with_reducible refine Kd.C_drew ?_))); (case side2 => exact (Kd.V_reads' HO1_6.out).2.1); (case side3 => repeat (first | exact (Kd.V_reads' HO1_7.out).2.2 | (with_reducible refine Kd.C_alloc ?_ _) | (with_reducible refine Kd.C_drewN ?_ _) | (with_reducible refine Kd.C_drew ?_))); (case side4 => exact (Kd.V_reads' HO1_7.out).2.1); rintro e w12 ⟨rfl, hb⟩; refine ⟨_, rfl, ?_⟩; have n0_ := Aside0.mk (Kd.V_below (by (with_reducible repeat (first | apply Kd.V_alloc | apply Kd.V_drewN | apply Kd.V_drew)); exact HO1_6.out) hb); have n1_ := Aside0.mk (Kd.V_below (by (with_reducible repeat (first | apply Kd.V_alloc | apply Kd.V_drewN | apply Kd.V_drew)); exact HO1_7.out) hb); have n2_ := Aside0.mk (blk_below (g := gb295) (o := .cells #[.string a1_0, .int .i64 a1_1, .int .i64 a1_2, .int .i64 a1_3, .int .i64 a1_4, .int .i64 a1_5, .slice A1_6 l1_6.length c1_6, .slice A1_7 l1_7.length c1_7] 25 (0, 0)) (by (with_reducible repeat (first | refine blk_drewN ?_ _ | refine blk_drew ?_ | refine blk_alloc ?_ _)); exact BK295.out) hb); have n3_ := Aside0.mk (below_step (by repeat (first | (with_reducible first | exact HB.out | apply below_alloc | apply pw_below_drewN | apply below_drew1 | refine below_set ?_ GE295.out) | exact HB.out)) hb); clear HO1_6; clear HO1_7; clear BK295; clear HB; have HO1_6 := n0_; have HO1_7 := n1_; have BK295 := n2_; have HB := n3_; clear n0_ n1_ n2_ n3_; (try clear hb); (try clear hb2); (try clear hk); (try clear hi)) | (go_at_call 8; (with_reducible refine (entrepotlaw12_shown.calls  t297 _ A10.out).mono ?_); rintro e w13 ⟨rfl, hb⟩; have n0_ := Aside0.mk (Kd.V_below (by (with_reducible repeat (first | apply Kd.V_alloc | apply Kd.V_drewN | apply Kd.V_drew)); exact HO1_6.out) hb); have n1_ := Aside0.mk (Kd.V_below (by (with_reducible repeat (first | apply Kd.V_alloc | apply Kd.V_drewN | apply Kd.V_drew)); exact HO1_7.out) hb); have n2_ := Aside0.mk (blk_below (g := gb295) (o := .cells #[.string a1_0, .int .i64 a1_1, .int .i64 a1_2, .int .i64 a1_3, .int .i64 a1_4, .int .i64 a1_5, .slice A1_6 l1_6.length c1_6, .slice A1_7 l1_7.length c1_7] 25 (0, 0)) (by (with_reducible repeat (first | refine blk_drewN ?_ _ | refine blk_drew ?_ | refine blk_alloc ?_ _)); exact BK295.out) hb); have n3_ := Aside0.mk (below_step (by repeat (first | (with_reducible first | exact HB.out | apply below_alloc | apply pw_below_drewN | apply below_drew1 | refine below_set ?_ GE295.out) | exact HB.out)) hb); clear HO1_6; clear HO1_7; clear BK295; clear HB; have HO1_6 := n0_; have HO1_7 := n1_; have BK295 := n2_; have HB := n3_; clear n0_ n1_ n2_ n3_; (try clear hb); (try clear hb2); (try clear hk); (try clear hi)))
   go_meet
   case rel => exact ⟨_, (!t297), (by first | rfl | (simp; done) | (simp [*]; done)), H', ⟨by first | omega | exact Nat.le_refl _⟩, ⟨by (with_reducible repeat (first | apply Kd.V_alloc | apply Kd.V_drewN | apply Kd.V_drew)); exact HO1_6.out⟩, ⟨by (with_reducible repeat (first | apply Kd.V_alloc | apply Kd.V_drewN | apply Kd.V_drew)); exact HO1_7.out⟩, ⟨by (with_reducible repeat (first | refine blk_drewN ?_ _ | refine blk_drew ?_ | refine blk_alloc ?_ _)); exact BK295.out⟩, ⟨by repeat (first | (with_reducible first | exact HB.out | apply below_alloc | apply pw_below_drewN | apply below_drew1 | refine below_set ?_ GE295.out) | exact HB.out)⟩⟩
 case rest =>
  clear HC4
  obtain ⟨kq, x23_3, rfl, HA, HJ3, HO_296006, HO_296007, BK295, HB⟩ := hcut
  cases kq with
  | zero => exact absurd HA.out (by simp [entrepotlaw12_ExpressTurned.j0])
  | succ kj3 =>
   have H := HA.out
   clear HA
   simp only [entrepotlaw12_ExpressTurned.j0] at H
   by_cases c14 : x23_3 = true
   ·subst c14
    have H1 : ((entrepotlaw12_shown.f).bind fun t298 => (some t298)) = some r := by rw [if_pos rfl] at H; exact H
    clear H
    have H := H1
    clear H1
    replace H := Option.bind_eq_some_iff.mp H
    obtain ⟨t298, A150, H⟩ := H
    replace H : (some t298) = some r := H
    have A15 := Aside0.mk A150
    clear A150
    obtain rfl := Option.some.inj H
    go_wp2_with (first | ((with_reducible refine gate_callee (f := 8) rfl ?_); refine goesL_ (some 24) rfl rfl Try.func8 (by kernel_rfl) rfl #[] rfl (by (try simp only [List.map_toArray, List.map_cons, List.map_nil]); first | done | rfl | (simp only [List.length_drop, List.length_take]; rfl)) ?_; (with_reducible refine (entrepotlaw12_shown.calls  t298 _ A15.out).mono ?_); rintro e w16 ⟨rfl, hb⟩; refine ⟨_, rfl, ?_⟩; have n0_ := Aside0.mk (Kd.V_below (by (with_reducible repeat (first | apply Kd.V_alloc | apply Kd.V_drewN | apply Kd.V_drew)); exact HO_296006.out) hb); have n1_ := Aside0.mk (Kd.V_below (by (with_reducible repeat (first | apply Kd.V_alloc | apply Kd.V_drewN | apply Kd.V_drew)); exact HO_296007.out) hb); have n2_ := Aside0.mk (blk_below (g := gb295) (o := .cells #[.string a1_0, .int .i64 a1_1, .int .i64 a1_2, .int .i64 a1_3, .int .i64 a1_4, .int .i64 a1_5, .slice A1_6 l1_6.length c1_6, .slice A1_7 l1_7.length c1_7] 25 (0, 0)) (by (with_reducible repeat (first | refine blk_drewN ?_ _ | refine blk_drew ?_ | refine blk_alloc ?_ _)); exact BK295.out) hb); have n3_ := Aside0.mk (below_step (by repeat (first | (with_reducible first | exact HB.out | apply below_alloc | apply pw_below_drewN | apply below_drew1 | refine below_set ?_ GE295.out) | exact HB.out)) hb); clear HO_296006; clear HO_296007; clear BK295; clear HB; have HO_296006 := n0_; have HO_296007 := n1_; have BK295 := n2_; have HB := n3_; clear n0_ n1_ n2_ n3_; (try clear hb); (try clear hb2); (try clear hk); (try clear hi)))
    go_ret
    exact ⟨by first | rfl | (simp [errW_none, errW_some] <;> rfl) | (simp [*, errW_none, errW_some] <;> rfl), by repeat (first | (with_reducible first | exact HB.out | apply below_alloc | apply pw_below_drewN | apply below_drew1 | refine below_set ?_ GE295.out) | exact HB.out)⟩
   ·replace c14 := Bool.eq_false_iff.mpr c14
    subst c14
    have H1 : ((express_Lacks.f (wrap64 (1 + (Int.tmod (wrap64 (a0)) 3))) a1_0 a1_1 a1_2 a1_3 a1_4 a1_5 l1_6 l1_7).bind fun t299 => (if (t299.length : Int) = 0 then ((express_Can.f (wrap64 (1 + (Int.tmod (wrap64 (a0)) 3))) a1_0 a1_1 a1_2 a1_3 a1_4 a1_5 l1_6 l1_7).bind fun t302 => (some t302)) else (entrepotlaw12_ExpressTurned.l0 kj3 (wrap64 (1 + (Int.tmod (wrap64 (a0)) 3))) t299 (Int.tmod (wrap64 (a2)) (t299.length : Int)) 0 a1_0 a1_1 a1_2 a1_3 a1_4 a1_5 l1_6 l1_7 a1_0 a1_1 a1_2 a1_3 a1_4 a1_5 l1_6 l1_7))) = some r := by rw [if_neg (show ¬ (false = true) by decide)] at H; exact H
    clear H
    have H := H1
    clear H1
    replace H := Option.bind_eq_some_iff.mp H
    obtain ⟨t299, A170, H⟩ := H
    replace H : (if (t299.length : Int) = 0 then ((express_Can.f (wrap64 (1 + (Int.tmod (wrap64 (a0)) 3))) a1_0 a1_1 a1_2 a1_3 a1_4 a1_5 l1_6 l1_7).bind fun t302 => (some t302)) else (entrepotlaw12_ExpressTurned.l0 kj3 (wrap64 (1 + (Int.tmod (wrap64 (a0)) 3))) t299 (Int.tmod (wrap64 (a2)) (t299.length : Int)) 0 a1_0 a1_1 a1_2 a1_3 a1_4 a1_5 l1_6 l1_7 a1_0 a1_1 a1_2 a1_3 a1_4 a1_5 l1_6 l1_7)) = some r := H
    have A17 := Aside0.mk A170
    clear A170
    by_cases c18 : (t299.length : Int) = 0
    ·rw [if_pos c18] at H
     have c18b0 : ((t299.length : Int) == 0) = true := beq_iff_eq.mpr c18
     have c18b1 : ((t299.length : Int) != 0) = false := bne_eq_false_iff_eq.mpr c18
     clear c18
     replace H := Option.bind_eq_some_iff.mp H
     obtain ⟨t302, A190, H⟩ := H
     replace H : (some t302) = some r := H
     have A19 := Aside0.mk A190
     clear A190
     obtain rfl := Option.some.inj H
     obtain ⟨hcz20_0, hcz20_1, hcz20_2, hcz20_3, hcz20_4, hcz20_5, hcz20_6, hcz20_7, hfz20_0, hfz20_1, hfz20_2, hfz20_3, hfz20_4, hfz20_5, hfz20_6, hfz20_7⟩ := blk8_ BK295.out
     go_wp2_with (first | ((with_reducible refine gate_callee (f := 9) rfl ?_); refine goesL_ (some 27) rfl rfl Try.func9 (by kernel_rfl) rfl #[.int .i64 (wrap64 (1 + (Int.tmod (wrap64 (a0)) 3))), .agg #[.string a1_0, .int .i64 a1_1, .int .i64 a1_2, .int .i64 a1_3, .int .i64 a1_4, .int .i64 a1_5, .slice A1_6 l1_6.length c1_6, .slice A1_7 l1_7.length c1_7]] rfl (by (try simp only [List.map_toArray, List.map_cons, List.map_nil]); first | done | rfl | (simp only [List.length_drop, List.length_take]; rfl)) ?_; (with_reducible refine (express_Lacks.calls (wrap64 (1 + (Int.tmod (wrap64 (a0)) 3))) a1_0 a1_1 a1_2 a1_3 a1_4 a1_5 _ _ l1_6 _ _ l1_7 t299 _ ?side1 ?side2 ?side3 ?side4 A17.out).mono ?_); (case side1 => repeat (first | exact (Kd.V_reads' HO_296006.out).2.2 | (with_reducible refine Kd.C_alloc ?_ _) | (with_reducible refine Kd.C_drewN ?_ _) | (with_reducible refine Kd.C_drew ?_))); (case side2 => exact (Kd.V_reads' HO_296006.out).2.1); (case side3 => repeat (first | exact (Kd.V_reads' HO_296007.out).2.2 | (with_reducible refine Kd.C_alloc ?_ _) | (with_reducible refine Kd.C_drewN ?_ _) | (with_reducible refine Kd.C_drew ?_))); (case side4 => exact (Kd.V_reads' HO_296007.out).2.1); rintro e w21 ⟨v300, rfl, ho0, hb⟩; refine ⟨_, rfl, ?_⟩; have n0_ := Aside0.mk (Kd.V_elder' (by (with_reducible repeat (first | apply Kd.V_alloc | apply Kd.V_drewN | apply Kd.V_drew)); exact HO_296006.out) (Kd.R_base ho0) hb); have n1_ := Aside0.mk (Kd.V_elder' (by (with_reducible repeat (first | apply Kd.V_alloc | apply Kd.V_drewN | apply Kd.V_drew)); exact HO_296007.out) (Kd.R_base ho0) hb); have n2_ := Aside0.mk (Kd.R_lower (Kd.R_newM (M := fun k_ => (w.heap.size ≤ k_)) ho0 (below_size (by repeat (first | (with_reducible first | exact HB.out | apply below_alloc | apply pw_below_drewN | apply below_drew1 | refine below_set ?_ GE295.out) | exact HB.out))) (fun k_ h_ => h_)) (below_size (by repeat (first | (with_reducible first | exact HB.out | apply below_alloc | apply pw_below_drewN | apply below_drew1 | refine below_set ?_ GE295.out) | exact HB.out)))); have n3_ := Aside0.mk (blk_below (g := gb295) (o := .cells #[.string a1_0, .int .i64 a1_1, .int .i64 a1_2, .int .i64 a1_3, .int .i64 a1_4, .int .i64 a1_5, .slice A1_6 l1_6.length c1_6, .slice A1_7 l1_7.length c1_7] 25 (0, 0)) (by (with_reducible repeat (first | refine blk_drewN ?_ _ | refine blk_drew ?_ | refine blk_alloc ?_ _)); exact BK295.out) hb); have n4_ := Aside0.mk (below_step (by repeat (first | (with_reducible first | exact HB.out | apply below_alloc | apply pw_below_drewN | apply below_drew1 | refine below_set ?_ GE295.out) | exact HB.out)) hb); clear HO_296006; clear HO_296007; clear BK295; clear HB; have HO_296006 := n0_; have HO_296007 := n1_; have HO301 := n2_; have BK295 := n3_; have HB := n4_; clear n0_ n1_ n2_ n3_ n4_; (try clear hb); (try clear hb2); (try clear hk); (try clear hi); (try clear ho0); obtain ⟨Ao22, co22, eo22⟩ := Kd.R_slice HO301.out; subst eo22; obtain ⟨hcz23_0, hcz23_1, hcz23_2, hcz23_3, hcz23_4, hcz23_5, hcz23_6, hcz23_7, hfz23_0, hfz23_1, hfz23_2, hfz23_3, hfz23_4, hfz23_5, hfz23_6, hfz23_7⟩ := blk8_ BK295.out) | ((with_reducible refine gate_callee (f := 13) rfl ?_); refine goesL_ (some 33) rfl rfl Try.func13 (by kernel_rfl) rfl #[.int .i64 (wrap64 (1 + (Int.tmod (wrap64 (a0)) 3))), .agg #[.string a1_0, .int .i64 a1_1, .int .i64 a1_2, .int .i64 a1_3, .int .i64 a1_4, .int .i64 a1_5, .slice A1_6 l1_6.length c1_6, .slice A1_7 l1_7.length c1_7]] rfl (by (try simp only [List.map_toArray, List.map_cons, List.map_nil]); first | done | rfl | (simp only [List.length_drop, List.length_take]; rfl)) ?_; (with_reducible refine (express_Can.calls (wrap64 (1 + (Int.tmod (wrap64 (a0)) 3))) a1_0 a1_1 a1_2 a1_3 a1_4 a1_5 _ _ l1_6 _ _ l1_7 t302 _ ?side1 ?side2 ?side3 ?side4 A19.out).mono ?_); (case side1 => repeat (first | exact (Kd.V_reads' HO_296006.out).2.2 | (with_reducible refine Kd.C_alloc ?_ _) | (with_reducible refine Kd.C_drewN ?_ _) | (with_reducible refine Kd.C_drew ?_))); (case side2 => exact (Kd.V_reads' HO_296006.out).2.1); (case side3 => repeat (first | exact (Kd.V_reads' HO_296007.out).2.2 | (with_reducible refine Kd.C_alloc ?_ _) | (with_reducible refine Kd.C_drewN ?_ _) | (with_reducible refine Kd.C_drew ?_))); (case side4 => exact (Kd.V_reads' HO_296007.out).2.1); rintro e w24 ⟨rfl, hb⟩; refine ⟨_, rfl, ?_⟩; have n0_ := Aside0.mk (Kd.V_below (by (with_reducible repeat (first | apply Kd.V_alloc | apply Kd.V_drewN | apply Kd.V_drew)); exact HO_296006.out) hb); have n1_ := Aside0.mk (Kd.V_below (by (with_reducible repeat (first | apply Kd.V_alloc | apply Kd.V_drewN | apply Kd.V_drew)); exact HO_296007.out) hb); have n2_ := Aside0.mk (Kd.R_below (by (with_reducible repeat (first | apply Kd.R_alloc | apply Kd.R_drewN | apply Kd.R_drew)); exact HO301.out) hb); have n3_ := Aside0.mk (blk_below (g := gb295) (o := .cells #[.string a1_0, .int .i64 a1_1, .int .i64 a1_2, .int .i64 a1_3, .int .i64 a1_4, .int .i64 a1_5, .slice A1_6 l1_6.length c1_6, .slice A1_7 l1_7.length c1_7] 25 (0, 0)) (by (with_reducible repeat (first | refine blk_drewN ?_ _ | refine blk_drew ?_ | refine blk_alloc ?_ _)); exact BK295.out) hb); have n4_ := Aside0.mk (below_step (by repeat (first | (with_reducible first | exact HB.out | apply below_alloc | apply pw_below_drewN | apply below_drew1 | refine below_set ?_ GE295.out) | exact HB.out)) hb); clear HO_296006; clear HO_296007; clear HO301; clear BK295; clear HB; have HO_296006 := n0_; have HO_296007 := n1_; have HO301 := n2_; have BK295 := n3_; have HB := n4_; clear n0_ n1_ n2_ n3_ n4_; (try clear hb); (try clear hb2); (try clear hk); (try clear hi)))
     go_ret
     exact ⟨by first | rfl | (simp [errW_none, errW_some] <;> rfl) | (simp [*, errW_none, errW_some] <;> rfl), by repeat (first | (with_reducible first | exact HB.out | apply below_alloc | apply pw_below_drewN | apply below_drew1 | refine below_set ?_ GE295.out) | exact HB.out)⟩
    ·rw [if_neg c18] at H
     have c18b0 : ((t299.length : Int) == 0) = false := beq_eq_false_iff_ne.mpr c18
     have c18b1 : ((t299.length : Int) != 0) = true := bne_iff_ne.mpr c18
     have c18b2 : ¬ (t299 = []) := fun h_ => c18 (by rw [h_]; rfl)
     have H' := Aside0.mk H
     clear H
     obtain ⟨hcz25_0, hcz25_1, hcz25_2, hcz25_3, hcz25_4, hcz25_5, hcz25_6, hcz25_7, hfz25_0, hfz25_1, hfz25_2, hfz25_3, hfz25_4, hfz25_5, hfz25_6, hfz25_7⟩ := blk8_ BK295.out
     go_wp2_with (first | ((with_reducible refine gate_callee (f := 9) rfl ?_); refine goesL_ (some 27) rfl rfl Try.func9 (by kernel_rfl) rfl #[.int .i64 (wrap64 (1 + (Int.tmod (wrap64 (a0)) 3))), .agg #[.string a1_0, .int .i64 a1_1, .int .i64 a1_2, .int .i64 a1_3, .int .i64 a1_4, .int .i64 a1_5, .slice A1_6 l1_6.length c1_6, .slice A1_7 l1_7.length c1_7]] rfl (by (try simp only [List.map_toArray, List.map_cons, List.map_nil]); first | done | rfl | (simp only [List.length_drop, List.length_take]; rfl)) ?_; (with_reducible refine (express_Lacks.calls (wrap64 (1 + (Int.tmod (wrap64 (a0)) 3))) a1_0 a1_1 a1_2 a1_3 a1_4 a1_5 _ _ l1_6 _ _ l1_7 t299 _ ?side1 ?side2 ?side3 ?side4 A17.out).mono ?_); (case side1 => repeat (first | exact (Kd.V_reads' HO_296006.out).2.2 | (with_reducible refine Kd.C_alloc ?_ _) | (with_reducible refine Kd.C_drewN ?_ _) | (with_reducible refine Kd.C_drew ?_))); (case side2 => exact (Kd.V_reads' HO_296006.out).2.1); (case side3 => repeat (first | exact (Kd.V_reads' HO_296007.out).2.2 | (with_reducible refine Kd.C_alloc ?_ _) | (with_reducible refine Kd.C_drewN ?_ _) | (with_reducible refine Kd.C_drew ?_))); (case side4 => exact (Kd.V_reads' HO_296007.out).2.1); rintro e w26 ⟨v300, rfl, ho0, hb⟩; refine ⟨_, rfl, ?_⟩; have n0_ := Aside0.mk (Kd.V_elder' (by (with_reducible repeat (first | apply Kd.V_alloc | apply Kd.V_drewN | apply Kd.V_drew)); exact HO_296006.out) (Kd.R_base ho0) hb); have n1_ := Aside0.mk (Kd.V_elder' (by (with_reducible repeat (first | apply Kd.V_alloc | apply Kd.V_drewN | apply Kd.V_drew)); exact HO_296007.out) (Kd.R_base ho0) hb); have n2_ := Aside0.mk (Kd.R_lower (Kd.R_newM (M := fun k_ => (w.heap.size ≤ k_)) ho0 (below_size (by repeat (first | (with_reducible first | exact HB.out | apply below_alloc | apply pw_below_drewN | apply below_drew1 | refine below_set ?_ GE295.out) | exact HB.out))) (fun k_ h_ => h_)) (below_size (by repeat (first | (with_reducible first | exact HB.out | apply below_alloc | apply pw_below_drewN | apply below_drew1 | refine below_set ?_ GE295.out) | exact HB.out)))); have n3_ := Aside0.mk (blk_below (g := gb295) (o := .cells #[.string a1_0, .int .i64 a1_1, .int .i64 a1_2, .int .i64 a1_3, .int .i64 a1_4, .int .i64 a1_5, .slice A1_6 l1_6.length c1_6, .slice A1_7 l1_7.length c1_7] 25 (0, 0)) (by (with_reducible repeat (first | refine blk_drewN ?_ _ | refine blk_drew ?_ | refine blk_alloc ?_ _)); exact BK295.out) hb); have n4_ := Aside0.mk (below_step (by repeat (first | (with_reducible first | exact HB.out | apply below_alloc | apply pw_below_drewN | apply below_drew1 | refine below_set ?_ GE295.out) | exact HB.out)) hb); clear HO_296006; clear HO_296007; clear BK295; clear HB; have HO_296006 := n0_; have HO_296007 := n1_; have HO301 := n2_; have BK295 := n3_; have HB := n4_; clear n0_ n1_ n2_ n3_ n4_; (try clear hb); (try clear hb2); (try clear hk); (try clear hi); (try clear ho0); obtain ⟨Ao27, co27, eo27⟩ := Kd.R_slice HO301.out; subst eo27; obtain ⟨hcz28_0, hcz28_1, hcz28_2, hcz28_3, hcz28_4, hcz28_5, hcz28_6, hcz28_7, hfz28_0, hfz28_1, hfz28_2, hfz28_3, hfz28_4, hfz28_5, hfz28_6, hfz28_7⟩ := blk8_ BK295.out) | ((with_reducible refine gate_dst (N := 10) rfl ?_); (try (refine gate_guard (by rfl) ?_; dsimp only)); refine box_event ?hg (N := 10) ?hd (cs := #[.string (⟨#[]⟩ : ByteArray), .int .i64 0, .int .i64 0, .int .i64 0, .int .i64 0, .int .i64 0, .slice none 0 0, .slice none 0 0]) (t := 25) ?hr ?_; (case hd => rfl); (case hg => rfl); (case hr => first | (go_simp; done) | (go_simp; rfl)); intro gb303 hg w29 hbox hb; have n0_ := Aside0.mk (Kd.V_below (Kd.V_elderB (by (with_reducible repeat (first | apply Kd.V_alloc | apply Kd.V_drewN | apply Kd.V_drew)); exact HO_296006.out) gb303 (Nat.le_of_eq hg.symm)) hb); have n1_ := Aside0.mk (Kd.V_below (Kd.V_elderB (by (with_reducible repeat (first | apply Kd.V_alloc | apply Kd.V_drewN | apply Kd.V_drew)); exact HO_296007.out) gb303 (Nat.le_of_eq hg.symm)) hb); have n2_ := Aside0.mk (Kd.R_below (by (with_reducible repeat (first | apply Kd.R_alloc | apply Kd.R_drewN | apply Kd.R_drew)); exact HO301.out) hb); have n3_ := Aside0.mk (blk_below (g := gb295) (o := .cells #[.string a1_0, .int .i64 a1_1, .int .i64 a1_2, .int .i64 a1_3, .int .i64 a1_4, .int .i64 a1_5, .slice A1_6 l1_6.length c1_6, .slice A1_7 l1_7.length c1_7] 25 (0, 0)) (by (with_reducible repeat (first | refine blk_drewN ?_ _ | refine blk_drew ?_ | refine blk_alloc ?_ _)); exact BK295.out) hb); have n4_ := Aside0.mk (below_step (by repeat (first | (with_reducible first | exact HB.out | apply below_alloc | apply pw_below_drewN | apply below_drew1 | refine below_set ?_ GE295.out) | exact HB.out)) hb); have n5_ := Aside0.mk (hbox); have n6_ := Aside0.mk ((by rw [hg]; exact (below_size (by repeat (first | (with_reducible first | exact HB.out | apply below_alloc | apply pw_below_drewN | apply below_drew1 | refine below_set ?_ GE295.out) | exact HB.out))) : w.heap.size ≤ gb303)); have n7_ := Aside0.mk ((by rw [hg]; exact (below_size (by repeat (first | (with_reducible first | exact HB.out | apply below_alloc | apply pw_below_drewN | apply below_drew1 | refine below_set ?_ GE295.out) | exact HB.out))) : w.heap.size ≤ gb303)); have n8_ := Aside0.mk ((by rw [hg]; exact Nat.ne_of_lt (blk_lt (g := gb295) (o := .cells #[.string a1_0, .int .i64 a1_1, .int .i64 a1_2, .int .i64 a1_3, .int .i64 a1_4, .int .i64 a1_5, .slice A1_6 l1_6.length c1_6, .slice A1_7 l1_7.length c1_7] 25 (0, 0)) (by (with_reducible repeat (first | refine blk_drewN ?_ _ | refine blk_drew ?_ | refine blk_alloc ?_ _)); exact BK295.out)) : gb295 ≠ gb303)); have n9_ := Aside0.mk ((by rw [hg]; exact Nat.ne_of_gt (blk_lt (g := gb295) (o := .cells #[.string a1_0, .int .i64 a1_1, .int .i64 a1_2, .int .i64 a1_3, .int .i64 a1_4, .int .i64 a1_5, .slice A1_6 l1_6.length c1_6, .slice A1_7 l1_7.length c1_7] 25 (0, 0)) (by (with_reducible repeat (first | refine blk_drewN ?_ _ | refine blk_drew ?_ | refine blk_alloc ?_ _)); exact BK295.out)) : gb303 ≠ gb295)); clear HO_296006; clear HO_296007; clear HO301; clear BK295; clear HB; have HO_296006 := n0_; have HO_296007 := n1_; have HO301 := n2_; have BK295 := n3_; have HB := n4_; have BK303 := n5_; have GW303 := n6_; have GE303 := n7_; have NB295_303 := n8_; have NB303_295 := n9_; clear n0_ n1_ n2_ n3_ n4_ n5_ n6_ n7_ n8_ n9_; clear hb hbox hg; have hnb30 := NB303_295.out; have hnc30 := NB295_303.out; obtain ⟨hcz31_0, hcz31_1, hcz31_2, hcz31_3, hcz31_4, hcz31_5, hcz31_6, hcz31_7, hfz31_0, hfz31_1, hfz31_2, hfz31_3, hfz31_4, hfz31_5, hfz31_6, hfz31_7⟩ := blk8_ BK303.out; obtain ⟨hcz32_0, hcz32_1, hcz32_2, hcz32_3, hcz32_4, hcz32_5, hcz32_6, hcz32_7, hfz32_0, hfz32_1, hfz32_2, hfz32_3, hfz32_4, hfz32_5, hfz32_6, hfz32_7⟩ := blk8_ BK295.out) | ((with_reducible refine gate_dst (N := 11) rfl ?_); (try (refine gate_guard (by rfl) ?_; dsimp only)); refine box_event ?hg (N := 11) ?hd (cs := #[.string (⟨#[]⟩ : ByteArray), .int .i64 0, .int .i64 0, .int .i64 0, .int .i64 0, .int .i64 0, .slice none 0 0, .slice none 0 0]) (t := 25) ?hr ?_; (case hd => rfl); (case hg => rfl); (case hr => first | (go_simp; done) | (go_simp; rfl)); intro gb304 hg w33 hbox hb; have n0_ := Aside0.mk (Kd.V_below (Kd.V_elderB (by (with_reducible repeat (first | apply Kd.V_alloc | apply Kd.V_drewN | apply Kd.V_drew)); exact (Kd.V_mono (Kd.V_far (p := ⟨gb303, 7, none⟩) (Kd.V_far (p := ⟨gb303, 6, none⟩) (Kd.V_far (p := ⟨gb303, 5, none⟩) (Kd.V_far (p := ⟨gb303, 4, none⟩) (Kd.V_far (p := ⟨gb303, 3, none⟩) (Kd.V_far (p := ⟨gb303, 2, none⟩) (Kd.V_far (p := ⟨gb303, 1, none⟩) (Kd.V_far (p := ⟨gb303, 0, none⟩) (Kd.V_mono HO_296006.out (fun k_ hk => (⟨hk, hk.2⟩ : _ ∧ k_ ≠ gb303))) (fun _ hk => hk.2) (.string a1_0)) (fun _ hk => hk.2) (.int .i64 a1_1)) (fun _ hk => hk.2) (.int .i64 a1_2)) (fun _ hk => hk.2) (.int .i64 a1_3)) (fun _ hk => hk.2) (.int .i64 a1_4)) (fun _ hk => hk.2) (.int .i64 a1_5)) (fun _ hk => hk.2) (.slice A1_6 l1_6.length c1_6)) (fun _ hk => hk.2) (.slice A1_7 l1_7.length c1_7)) (fun _ h_ => h_.1))) gb304 (Nat.le_of_eq hg.symm)) hb); have n1_ := Aside0.mk (Kd.V_below (Kd.V_elderB (by (with_reducible repeat (first | apply Kd.V_alloc | apply Kd.V_drewN | apply Kd.V_drew)); exact (Kd.V_mono (Kd.V_far (p := ⟨gb303, 7, none⟩) (Kd.V_far (p := ⟨gb303, 6, none⟩) (Kd.V_far (p := ⟨gb303, 5, none⟩) (Kd.V_far (p := ⟨gb303, 4, none⟩) (Kd.V_far (p := ⟨gb303, 3, none⟩) (Kd.V_far (p := ⟨gb303, 2, none⟩) (Kd.V_far (p := ⟨gb303, 1, none⟩) (Kd.V_far (p := ⟨gb303, 0, none⟩) (Kd.V_mono HO_296007.out (fun k_ hk => (⟨hk, hk.2⟩ : _ ∧ k_ ≠ gb303))) (fun _ hk => hk.2) (.string a1_0)) (fun _ hk => hk.2) (.int .i64 a1_1)) (fun _ hk => hk.2) (.int .i64 a1_2)) (fun _ hk => hk.2) (.int .i64 a1_3)) (fun _ hk => hk.2) (.int .i64 a1_4)) (fun _ hk => hk.2) (.int .i64 a1_5)) (fun _ hk => hk.2) (.slice A1_6 l1_6.length c1_6)) (fun _ hk => hk.2) (.slice A1_7 l1_7.length c1_7)) (fun _ h_ => h_.1))) gb304 (Nat.le_of_eq hg.symm)) hb); have n2_ := Aside0.mk (Kd.R_below (by (with_reducible repeat (first | apply Kd.R_alloc | apply Kd.R_drewN | apply Kd.R_drew)); exact (Kd.R_mono (Kd.R_far (p := ⟨gb303, 7, none⟩) (Kd.R_far (p := ⟨gb303, 6, none⟩) (Kd.R_far (p := ⟨gb303, 5, none⟩) (Kd.R_far (p := ⟨gb303, 4, none⟩) (Kd.R_far (p := ⟨gb303, 3, none⟩) (Kd.R_far (p := ⟨gb303, 2, none⟩) (Kd.R_far (p := ⟨gb303, 1, none⟩) (Kd.R_far (p := ⟨gb303, 0, none⟩) (Kd.R_types HO301.out BK303.out (by decide)) (fun _ hk => hk.2) (.string a1_0)) (fun _ hk => hk.2) (.int .i64 a1_1)) (fun _ hk => hk.2) (.int .i64 a1_2)) (fun _ hk => hk.2) (.int .i64 a1_3)) (fun _ hk => hk.2) (.int .i64 a1_4)) (fun _ hk => hk.2) (.int .i64 a1_5)) (fun _ hk => hk.2) (.slice A1_6 l1_6.length c1_6)) (fun _ hk => hk.2) (.slice A1_7 l1_7.length c1_7)) (fun _ h_ => h_.1))) hb); have n3_ := Aside0.mk (blk_below (g := gb295) (o := .cells #[.string a1_0, .int .i64 a1_1, .int .i64 a1_2, .int .i64 a1_3, .int .i64 a1_4, .int .i64 a1_5, .slice A1_6 l1_6.length c1_6, .slice A1_7 l1_7.length c1_7] 25 (0, 0)) (by (with_reducible repeat (first | refine blk_drewN ?_ _ | refine blk_drew ?_ | refine blk_alloc ?_ _)); refine blk_far ?_ NB295_303.out _; (with_reducible repeat (first | refine blk_drewN ?_ _ | refine blk_drew ?_ | refine blk_alloc ?_ _)); refine blk_far ?_ NB295_303.out _; (with_reducible repeat (first | refine blk_drewN ?_ _ | refine blk_drew ?_ | refine blk_alloc ?_ _)); refine blk_far ?_ NB295_303.out _; (with_reducible repeat (first | refine blk_drewN ?_ _ | refine blk_drew ?_ | refine blk_alloc ?_ _)); refine blk_far ?_ NB295_303.out _; (with_reducible repeat (first | refine blk_drewN ?_ _ | refine blk_drew ?_ | refine blk_alloc ?_ _)); refine blk_far ?_ NB295_303.out _; (with_reducible repeat (first | refine blk_drewN ?_ _ | refine blk_drew ?_ | refine blk_alloc ?_ _)); refine blk_far ?_ NB295_303.out _; (with_reducible repeat (first | refine blk_drewN ?_ _ | refine blk_drew ?_ | refine blk_alloc ?_ _)); refine blk_far ?_ NB295_303.out _; (with_reducible repeat (first | refine blk_drewN ?_ _ | refine blk_drew ?_ | refine blk_alloc ?_ _)); refine blk_far ?_ NB295_303.out _; (with_reducible repeat (first | refine blk_drewN ?_ _ | refine blk_drew ?_ | refine blk_alloc ?_ _)); exact BK295.out) hb); have n4_ := Aside0.mk (blk_below (g := gb303) (o := .cells #[.string a1_0, .int .i64 a1_1, .int .i64 a1_2, .int .i64 a1_3, .int .i64 a1_4, .int .i64 a1_5, .slice A1_6 l1_6.length c1_6, .slice A1_7 l1_7.length c1_7] 25 (0, 0)) (by (with_reducible repeat (first | refine blk_drewN ?_ _ | refine blk_drew ?_ | refine blk_alloc ?_ _)); refine blk_put (cs := #[.string a1_0, .int .i64 a1_1, .int .i64 a1_2, .int .i64 a1_3, .int .i64 a1_4, .int .i64 a1_5, .slice A1_6 l1_6.length c1_6, .slice none 0 0]) ?_ 7 _ rfl; (with_reducible repeat (first | refine blk_drewN ?_ _ | refine blk_drew ?_ | refine blk_alloc ?_ _)); refine blk_put (cs := #[.string a1_0, .int .i64 a1_1, .int .i64 a1_2, .int .i64 a1_3, .int .i64 a1_4, .int .i64 a1_5, .slice none 0 0, .slice none 0 0]) ?_ 6 _ rfl; (with_reducible repeat (first | refine blk_drewN ?_ _ | refine blk_drew ?_ | refine blk_alloc ?_ _)); refine blk_put (cs := #[.string a1_0, .int .i64 a1_1, .int .i64 a1_2, .int .i64 a1_3, .int .i64 a1_4, .int .i64 0, .slice none 0 0, .slice none 0 0]) ?_ 5 _ rfl; (with_reducible repeat (first | refine blk_drewN ?_ _ | refine blk_drew ?_ | refine blk_alloc ?_ _)); refine blk_put (cs := #[.string a1_0, .int .i64 a1_1, .int .i64 a1_2, .int .i64 a1_3, .int .i64 0, .int .i64 0, .slice none 0 0, .slice none 0 0]) ?_ 4 _ rfl; (with_reducible repeat (first | refine blk_drewN ?_ _ | refine blk_drew ?_ | refine blk_alloc ?_ _)); refine blk_put (cs := #[.string a1_0, .int .i64 a1_1, .int .i64 a1_2, .int .i64 0, .int .i64 0, .int .i64 0, .slice none 0 0, .slice none 0 0]) ?_ 3 _ rfl; (with_reducible repeat (first | refine blk_drewN ?_ _ | refine blk_drew ?_ | refine blk_alloc ?_ _)); refine blk_put (cs := #[.string a1_0, .int .i64 a1_1, .int .i64 0, .int .i64 0, .int .i64 0, .int .i64 0, .slice none 0 0, .slice none 0 0]) ?_ 2 _ rfl; (with_reducible repeat (first | refine blk_drewN ?_ _ | refine blk_drew ?_ | refine blk_alloc ?_ _)); refine blk_put (cs := #[.string a1_0, .int .i64 0, .int .i64 0, .int .i64 0, .int .i64 0, .int .i64 0, .slice none 0 0, .slice none 0 0]) ?_ 1 _ rfl; (with_reducible repeat (first | refine blk_drewN ?_ _ | refine blk_drew ?_ | refine blk_alloc ?_ _)); refine blk_put (cs := #[.string (⟨#[]⟩ : ByteArray), .int .i64 0, .int .i64 0, .int .i64 0, .int .i64 0, .int .i64 0, .slice none 0 0, .slice none 0 0]) ?_ 0 _ rfl; (with_reducible repeat (first | refine blk_drewN ?_ _ | refine blk_drew ?_ | refine blk_alloc ?_ _)); exact BK303.out) hb); have n5_ := Aside0.mk (below_step (by repeat (first | (with_reducible first | exact HB.out | apply below_alloc | apply pw_below_drewN | apply below_drew1 | refine below_set ?_ GE295.out | refine below_set ?_ GE303.out) | exact HB.out)) hb); have n6_ := Aside0.mk (hbox); have n7_ := Aside0.mk ((by rw [hg]; exact (below_size (by repeat (first | (with_reducible first | exact HB.out | apply below_alloc | apply pw_below_drewN | apply below_drew1 | refine below_set ?_ GE295.out | refine below_set ?_ GE303.out) | exact HB.out))) : w.heap.size ≤ gb304)); have n8_ := Aside0.mk ((by rw [hg]; exact (below_size (by repeat (first | (with_reducible first | exact HB.out | apply below_alloc | apply pw_below_drewN | apply below_drew1 | refine below_set ?_ GE295.out | refine below_set ?_ GE303.out) | exact HB.out))) : w.heap.size ≤ gb304)); have n9_ := Aside0.mk ((by rw [hg]; exact Nat.ne_of_lt (blk_lt (g := gb295) (o := .cells #[.string a1_0, .int .i64 a1_1, .int .i64 a1_2, .int .i64 a1_3, .int .i64 a1_4, .int .i64 a1_5, .slice A1_6 l1_6.length c1_6, .slice A1_7 l1_7.length c1_7] 25 (0, 0)) (by (with_reducible repeat (first | refine blk_drewN ?_ _ | refine blk_drew ?_ | refine blk_alloc ?_ _)); refine blk_far ?_ NB295_303.out _; (with_reducible repeat (first | refine blk_drewN ?_ _ | refine blk_drew ?_ | refine blk_alloc ?_ _)); refine blk_far ?_ NB295_303.out _; (with_reducible repeat (first | refine blk_drewN ?_ _ | refine blk_drew ?_ | refine blk_alloc ?_ _)); refine blk_far ?_ NB295_303.out _; (with_reducible repeat (first | refine blk_drewN ?_ _ | refine blk_drew ?_ | refine blk_alloc ?_ _)); refine blk_far ?_ NB295_303.out _; (with_reducible repeat (first | refine blk_drewN ?_ _ | refine blk_drew ?_ | refine blk_alloc ?_ _)); refine blk_far ?_ NB295_303.out _; (with_reducible repeat (first | refine blk_drewN ?_ _ | refine blk_drew ?_ | refine blk_alloc ?_ _)); refine blk_far ?_ NB295_303.out _; (with_reducible repeat (first | refine blk_drewN ?_ _ | refine blk_drew ?_ | refine blk_alloc ?_ _)); refine blk_far ?_ NB295_303.out _; (with_reducible repeat (first | refine blk_drewN ?_ _ | refine blk_drew ?_ | refine blk_alloc ?_ _)); refine blk_far ?_ NB295_303.out _; (with_reducible repeat (first | refine blk_drewN ?_ _ | refine blk_drew ?_ | refine blk_alloc ?_ _)); exact BK295.out)) : gb295 ≠ gb304)); have n10_ := Aside0.mk ((by rw [hg]; exact Nat.ne_of_gt (blk_lt (g := gb295) (o := .cells #[.string a1_0, .int .i64 a1_1, .int .i64 a1_2, .int .i64 a1_3, .int .i64 a1_4, .int .i64 a1_5, .slice A1_6 l1_6.length c1_6, .slice A1_7 l1_7.length c1_7] 25 (0, 0)) (by (with_reducible repeat (first | refine blk_drewN ?_ _ | refine blk_drew ?_ | refine blk_alloc ?_ _)); refine blk_far ?_ NB295_303.out _; (with_reducible repeat (first | refine blk_drewN ?_ _ | refine blk_drew ?_ | refine blk_alloc ?_ _)); refine blk_far ?_ NB295_303.out _; (with_reducible repeat (first | refine blk_drewN ?_ _ | refine blk_drew ?_ | refine blk_alloc ?_ _)); refine blk_far ?_ NB295_303.out _; (with_reducible repeat (first | refine blk_drewN ?_ _ | refine blk_drew ?_ | refine blk_alloc ?_ _)); refine blk_far ?_ NB295_303.out _; (with_reducible repeat (first | refine blk_drewN ?_ _ | refine blk_drew ?_ | refine blk_alloc ?_ _)); refine blk_far ?_ NB295_303.out _; (with_reducible repeat (first | refine blk_drewN ?_ _ | refine blk_drew ?_ | refine blk_alloc ?_ _)); refine blk_far ?_ NB295_303.out _; (with_reducible repeat (first | refine blk_drewN ?_ _ | refine blk_drew ?_ | refine blk_alloc ?_ _)); refine blk_far ?_ NB295_303.out _; (with_reducible repeat (first | refine blk_drewN ?_ _ | refine blk_drew ?_ | refine blk_alloc ?_ _)); refine blk_far ?_ NB295_303.out _; (with_reducible repeat (first | refine blk_drewN ?_ _ | refine blk_drew ?_ | refine blk_alloc ?_ _)); exact BK295.out)) : gb304 ≠ gb295)); have n11_ := Aside0.mk ((by rw [hg]; exact Nat.ne_of_lt (blk_lt (g := gb303) (o := .cells #[.string a1_0, .int .i64 a1_1, .int .i64 a1_2, .int .i64 a1_3, .int .i64 a1_4, .int .i64 a1_5, .slice A1_6 l1_6.length c1_6, .slice A1_7 l1_7.length c1_7] 25 (0, 0)) (by (with_reducible repeat (first | refine blk_drewN ?_ _ | refine blk_drew ?_ | refine blk_alloc ?_ _)); refine blk_put (cs := #[.string a1_0, .int .i64 a1_1, .int .i64 a1_2, .int .i64 a1_3, .int .i64 a1_4, .int .i64 a1_5, .slice A1_6 l1_6.length c1_6, .slice none 0 0]) ?_ 7 _ rfl; (with_reducible repeat (first | refine blk_drewN ?_ _ | refine blk_drew ?_ | refine blk_alloc ?_ _)); refine blk_put (cs := #[.string a1_0, .int .i64 a1_1, .int .i64 a1_2, .int .i64 a1_3, .int .i64 a1_4, .int .i64 a1_5, .slice none 0 0, .slice none 0 0]) ?_ 6 _ rfl; (with_reducible repeat (first | refine blk_drewN ?_ _ | refine blk_drew ?_ | refine blk_alloc ?_ _)); refine blk_put (cs := #[.string a1_0, .int .i64 a1_1, .int .i64 a1_2, .int .i64 a1_3, .int .i64 a1_4, .int .i64 0, .slice none 0 0, .slice none 0 0]) ?_ 5 _ rfl; (with_reducible repeat (first | refine blk_drewN ?_ _ | refine blk_drew ?_ | refine blk_alloc ?_ _)); refine blk_put (cs := #[.string a1_0, .int .i64 a1_1, .int .i64 a1_2, .int .i64 a1_3, .int .i64 0, .int .i64 0, .slice none 0 0, .slice none 0 0]) ?_ 4 _ rfl; (with_reducible repeat (first | refine blk_drewN ?_ _ | refine blk_drew ?_ | refine blk_alloc ?_ _)); refine blk_put (cs := #[.string a1_0, .int .i64 a1_1, .int .i64 a1_2, .int .i64 0, .int .i64 0, .int .i64 0, .slice none 0 0, .slice none 0 0]) ?_ 3 _ rfl; (with_reducible repeat (first | refine blk_drewN ?_ _ | refine blk_drew ?_ | refine blk_alloc ?_ _)); refine blk_put (cs := #[.string a1_0, .int .i64 a1_1, .int .i64 0, .int .i64 0, .int .i64 0, .int .i64 0, .slice none 0 0, .slice none 0 0]) ?_ 2 _ rfl; (with_reducible repeat (first | refine blk_drewN ?_ _ | refine blk_drew ?_ | refine blk_alloc ?_ _)); refine blk_put (cs := #[.string a1_0, .int .i64 0, .int .i64 0, .int .i64 0, .int .i64 0, .int .i64 0, .slice none 0 0, .slice none 0 0]) ?_ 1 _ rfl; (with_reducible repeat (first | refine blk_drewN ?_ _ | refine blk_drew ?_ | refine blk_alloc ?_ _)); refine blk_put (cs := #[.string (⟨#[]⟩ : ByteArray), .int .i64 0, .int .i64 0, .int .i64 0, .int .i64 0, .int .i64 0, .slice none 0 0, .slice none 0 0]) ?_ 0 _ rfl; (with_reducible repeat (first | refine blk_drewN ?_ _ | refine blk_drew ?_ | refine blk_alloc ?_ _)); exact BK303.out)) : gb303 ≠ gb304)); have n12_ := Aside0.mk ((by rw [hg]; exact Nat.ne_of_gt (blk_lt (g := gb303) (o := .cells #[.string a1_0, .int .i64 a1_1, .int .i64 a1_2, .int .i64 a1_3, .int .i64 a1_4, .int .i64 a1_5, .slice A1_6 l1_6.length c1_6, .slice A1_7 l1_7.length c1_7] 25 (0, 0)) (by (with_reducible repeat (first | refine blk_drewN ?_ _ | refine blk_drew ?_ | refine blk_alloc ?_ _)); refine blk_put (cs := #[.string a1_0, .int .i64 a1_1, .int .i64 a1_2, .int .i64 a1_3, .int .i64 a1_4, .int .i64 a1_5, .slice A1_6 l1_6.length c1_6, .slice none 0 0]) ?_ 7 _ rfl; (with_reducible repeat (first | refine blk_drewN ?_ _ | refine blk_drew ?_ | refine blk_alloc ?_ _)); refine blk_put (cs := #[.string a1_0, .int .i64 a1_1, .int .i64 a1_2, .int .i64 a1_3, .int .i64 a1_4, .int .i64 a1_5, .slice none 0 0, .slice none 0 0]) ?_ 6 _ rfl; (with_reducible repeat (first | refine blk_drewN ?_ _ | refine blk_drew ?_ | refine blk_alloc ?_ _)); refine blk_put (cs := #[.string a1_0, .int .i64 a1_1, .int .i64 a1_2, .int .i64 a1_3, .int .i64 a1_4, .int .i64 0, .slice none 0 0, .slice none 0 0]) ?_ 5 _ rfl; (with_reducible repeat (first | refine blk_drewN ?_ _ | refine blk_drew ?_ | refine blk_alloc ?_ _)); refine blk_put (cs := #[.string a1_0, .int .i64 a1_1, .int .i64 a1_2, .int .i64 a1_3, .int .i64 0, .int .i64 0, .slice none 0 0, .slice none 0 0]) ?_ 4 _ rfl; (with_reducible repeat (first | refine blk_drewN ?_ _ | refine blk_drew ?_ | refine blk_alloc ?_ _)); refine blk_put (cs := #[.string a1_0, .int .i64 a1_1, .int .i64 a1_2, .int .i64 0, .int .i64 0, .int .i64 0, .slice none 0 0, .slice none 0 0]) ?_ 3 _ rfl; (with_reducible repeat (first | refine blk_drewN ?_ _ | refine blk_drew ?_ | refine blk_alloc ?_ _)); refine blk_put (cs := #[.string a1_0, .int .i64 a1_1, .int .i64 0, .int .i64 0, .int .i64 0, .int .i64 0, .slice none 0 0, .slice none 0 0]) ?_ 2 _ rfl; (with_reducible repeat (first | refine blk_drewN ?_ _ | refine blk_drew ?_ | refine blk_alloc ?_ _)); refine blk_put (cs := #[.string a1_0, .int .i64 0, .int .i64 0, .int .i64 0, .int .i64 0, .int .i64 0, .slice none 0 0, .slice none 0 0]) ?_ 1 _ rfl; (with_reducible repeat (first | refine blk_drewN ?_ _ | refine blk_drew ?_ | refine blk_alloc ?_ _)); refine blk_put (cs := #[.string (⟨#[]⟩ : ByteArray), .int .i64 0, .int .i64 0, .int .i64 0, .int .i64 0, .int .i64 0, .slice none 0 0, .slice none 0 0]) ?_ 0 _ rfl; (with_reducible repeat (first | refine blk_drewN ?_ _ | refine blk_drew ?_ | refine blk_alloc ?_ _)); exact BK303.out)) : gb304 ≠ gb303)); clear HO_296006; clear HO_296007; clear HO301; clear BK295; clear BK303; clear HB; have HO_296006 := n0_; have HO_296007 := n1_; have HO301 := n2_; have BK295 := n3_; have BK303 := n4_; have HB := n5_; have BK304 := n6_; have GW304 := n7_; have GE304 := n8_; have NB295_304 := n9_; have NB304_295 := n10_; have NB303_304 := n11_; have NB304_303 := n12_; clear n0_ n1_ n2_ n3_ n4_ n5_ n6_ n7_ n8_ n9_ n10_ n11_ n12_; clear hb hbox hg; have hnb34 := NB304_295.out; have hnc34 := NB295_304.out; have hnb35 := NB304_303.out; have hnc35 := NB303_304.out; obtain ⟨hcz36_0, hcz36_1, hcz36_2, hcz36_3, hcz36_4, hcz36_5, hcz36_6, hcz36_7, hfz36_0, hfz36_1, hfz36_2, hfz36_3, hfz36_4, hfz36_5, hfz36_6, hfz36_7⟩ := blk8_ BK304.out))
     go_loopg [12] kj3 (fun kq v12 w' => ∃ (x12_2 : Int) (x304000_2 : ByteArray) (x304001_2 : Int) (x304002_2 : Int) (x304003_2 : Int) (x304004_2 : Int) (x304005_2 : Int) (x304006_2 : List (S40)) (x304007_2 : List Int) (x305000_2 : ByteArray) (x305001_2 : Int) (x305002_2 : Int) (x305003_2 : Int) (x305004_2 : Int) (x305005_2 : Int) (x305006_2 : List (S40)) (x305007_2 : List Int) (u304006 : Value) (u304007 : Value) (u305006 : Value) (u305007 : Value), v12 = .int .i64 x12_2 ∧ Aside0 (entrepotlaw12_ExpressTurned.l0 kq (wrap64 (1 + (Int.tmod (wrap64 (a0)) 3))) t299 (Int.tmod (wrap64 (a2)) (t299.length : Int)) x12_2 x304000_2 x304001_2 x304002_2 x304003_2 x304004_2 x304005_2 x304006_2 x304007_2 x305000_2 x305001_2 x305002_2 x305003_2 x305004_2 x305005_2 x305006_2 x305007_2 = some r) ∧ Aside0 (kq ≤ kj3) ∧ Aside0 (Kd.R (Kd.int .i64) 3 w' w.heap.size (fun k_ => (w.heap.size ≤ k_)) (.slice Ao27 t299.length co27) t299) ∧ Aside0 (Kd.V k40 40 w' w.heap.size (fun k_ => ((P1_6_ k_ ∨ P1_7_ k_) ∨ w.heap.size ≤ k_) ∧ some k_ ≠ ((.slice Ao27 t299.length co27) : Value).ownBlock ∧ k_ ≠ gb295 ∧ k_ ≠ gb303 ∧ k_ ≠ gb304) (.slice A1_6 l1_6.length c1_6) l1_6) ∧ Aside0 (Kd.V (Kd.int .i64) 3 w' w.heap.size (fun k_ => ((P1_6_ k_ ∨ P1_7_ k_) ∨ w.heap.size ≤ k_) ∧ some k_ ≠ ((.slice Ao27 t299.length co27) : Value).ownBlock ∧ k_ ≠ gb295 ∧ k_ ≠ gb303 ∧ k_ ≠ gb304) (.slice A1_7 l1_7.length c1_7) l1_7) ∧ Aside0 (Kd.V k40 40 w' w.heap.size (fun k_ => ((P1_6_ k_ ∨ P1_7_ k_) ∨ w.heap.size ≤ k_) ∧ some k_ ≠ ((.slice Ao27 t299.length co27) : Value).ownBlock ∧ k_ ≠ gb295 ∧ k_ ≠ gb303 ∧ k_ ≠ gb304) u304006 x304006_2) ∧ Aside0 (Kd.V (Kd.int .i64) 3 w' w.heap.size (fun k_ => ((P1_6_ k_ ∨ P1_7_ k_) ∨ w.heap.size ≤ k_) ∧ some k_ ≠ ((.slice Ao27 t299.length co27) : Value).ownBlock ∧ k_ ≠ gb295 ∧ k_ ≠ gb303 ∧ k_ ≠ gb304) u304007 x304007_2) ∧ Aside0 (Kd.V k40 40 w' w.heap.size (fun k_ => ((P1_6_ k_ ∨ P1_7_ k_) ∨ w.heap.size ≤ k_) ∧ some k_ ≠ ((.slice Ao27 t299.length co27) : Value).ownBlock ∧ k_ ≠ gb295 ∧ k_ ≠ gb303 ∧ k_ ≠ gb304) u305006 x305006_2) ∧ Aside0 (Kd.V (Kd.int .i64) 3 w' w.heap.size (fun k_ => ((P1_6_ k_ ∨ P1_7_ k_) ∨ w.heap.size ≤ k_) ∧ some k_ ≠ ((.slice Ao27 t299.length co27) : Value).ownBlock ∧ k_ ≠ gb295 ∧ k_ ≠ gb303 ∧ k_ ≠ gb304) u305007 x305007_2) ∧ Aside0 (w'.heap[gb295]? = some (.cells #[.string a1_0, .int .i64 a1_1, .int .i64 a1_2, .int .i64 a1_3, .int .i64 a1_4, .int .i64 a1_5, (.slice A1_6 l1_6.length c1_6), (.slice A1_7 l1_7.length c1_7)] 25 (0, 0))) ∧ Aside0 (w'.heap[gb303]? = some (.cells #[.string x304000_2, .int .i64 x304001_2, .int .i64 x304002_2, .int .i64 x304003_2, .int .i64 x304004_2, .int .i64 x304005_2, u304006, u304007] 25 (0, 0))) ∧ Aside0 (w'.heap[gb304]? = some (.cells #[.string x305000_2, .int .i64 x305001_2, .int .i64 x305002_2, .int .i64 x305003_2, .int .i64 x305004_2, .int .i64 x305005_2, u305006, u305007] 25 (0, 0))) ∧ Aside0 (Below w.heap.size w w'))
     case atStart => exact ⟨(0), (a1_0), (a1_1), (a1_2), (a1_3), (a1_4), (a1_5), (l1_6), (l1_7), (a1_0), (a1_1), (a1_2), (a1_3), (a1_4), (a1_5), (l1_6), (l1_7), (.slice A1_6 l1_6.length c1_6), (.slice A1_7 l1_7.length c1_7), (.slice A1_6 l1_6.length c1_6), (.slice A1_7 l1_7.length c1_7), (by first | rfl | (simp; done) | (simp [*]; done)), H', ⟨Nat.le_refl _⟩, ⟨by (with_reducible repeat (first | apply Kd.R_alloc | apply Kd.R_drewN | apply Kd.R_drew)); exact Kd.R_mono (Kd.R_far (p := ⟨gb304, 7, none⟩) (Kd.R_far (p := ⟨gb304, 6, none⟩) (Kd.R_far (p := ⟨gb304, 5, none⟩) (Kd.R_far (p := ⟨gb304, 4, none⟩) (Kd.R_far (p := ⟨gb304, 3, none⟩) (Kd.R_far (p := ⟨gb304, 2, none⟩) (Kd.R_far (p := ⟨gb304, 1, none⟩) (Kd.R_far (p := ⟨gb304, 0, none⟩) (Kd.R_types HO301.out BK304.out (by decide)) (fun _ hk => hk.2) (.string a1_0)) (fun _ hk => hk.2) (.int .i64 a1_1)) (fun _ hk => hk.2) (.int .i64 a1_2)) (fun _ hk => hk.2) (.int .i64 a1_3)) (fun _ hk => hk.2) (.int .i64 a1_4)) (fun _ hk => hk.2) (.int .i64 a1_5)) (fun _ hk => hk.2) (.slice A1_6 l1_6.length c1_6)) (fun _ hk => hk.2) (.slice A1_7 l1_7.length c1_7)) (fun _ hk => hk.1.1)⟩, ⟨by (with_reducible repeat (first | apply Kd.V_alloc | apply Kd.V_drewN | apply Kd.V_drew)); exact Kd.V_mono (Kd.V_far (p := ⟨gb304, 7, none⟩) (Kd.V_far (p := ⟨gb304, 6, none⟩) (Kd.V_far (p := ⟨gb304, 5, none⟩) (Kd.V_far (p := ⟨gb304, 4, none⟩) (Kd.V_far (p := ⟨gb304, 3, none⟩) (Kd.V_far (p := ⟨gb304, 2, none⟩) (Kd.V_far (p := ⟨gb304, 1, none⟩) (Kd.V_far (p := ⟨gb304, 0, none⟩) (Kd.V_mono HO_296006.out (fun k_ hk => (⟨hk, hk.2⟩ : _ ∧ k_ ≠ gb304))) (fun _ hk => hk.2) (.string a1_0)) (fun _ hk => hk.2) (.int .i64 a1_1)) (fun _ hk => hk.2) (.int .i64 a1_2)) (fun _ hk => hk.2) (.int .i64 a1_3)) (fun _ hk => hk.2) (.int .i64 a1_4)) (fun _ hk => hk.2) (.int .i64 a1_5)) (fun _ hk => hk.2) (.slice A1_6 l1_6.length c1_6)) (fun _ hk => hk.2) (.slice A1_7 l1_7.length c1_7)) (fun _ hk => (And.intro hk.1.1.1.1.1 (And.intro hk.1.1.1.2 (And.intro hk.1.1.1.1.2 (And.intro hk.1.1.2 hk.1.2)))))⟩, ⟨by (with_reducible repeat (first | apply Kd.V_alloc | apply Kd.V_drewN | apply Kd.V_drew)); exact Kd.V_mono (Kd.V_far (p := ⟨gb304, 7, none⟩) (Kd.V_far (p := ⟨gb304, 6, none⟩) (Kd.V_far (p := ⟨gb304, 5, none⟩) (Kd.V_far (p := ⟨gb304, 4, none⟩) (Kd.V_far (p := ⟨gb304, 3, none⟩) (Kd.V_far (p := ⟨gb304, 2, none⟩) (Kd.V_far (p := ⟨gb304, 1, none⟩) (Kd.V_far (p := ⟨gb304, 0, none⟩) (Kd.V_mono HO_296007.out (fun k_ hk => (⟨hk, hk.2⟩ : _ ∧ k_ ≠ gb304))) (fun _ hk => hk.2) (.string a1_0)) (fun _ hk => hk.2) (.int .i64 a1_1)) (fun _ hk => hk.2) (.int .i64 a1_2)) (fun _ hk => hk.2) (.int .i64 a1_3)) (fun _ hk => hk.2) (.int .i64 a1_4)) (fun _ hk => hk.2) (.int .i64 a1_5)) (fun _ hk => hk.2) (.slice A1_6 l1_6.length c1_6)) (fun _ hk => hk.2) (.slice A1_7 l1_7.length c1_7)) (fun _ hk => (And.intro hk.1.1.1.1.1 (And.intro hk.1.1.1.2 (And.intro hk.1.1.1.1.2 (And.intro hk.1.1.2 hk.1.2)))))⟩, ⟨by (with_reducible repeat (first | apply Kd.V_alloc | apply Kd.V_drewN | apply Kd.V_drew)); exact Kd.V_mono (Kd.V_far (p := ⟨gb304, 7, none⟩) (Kd.V_far (p := ⟨gb304, 6, none⟩) (Kd.V_far (p := ⟨gb304, 5, none⟩) (Kd.V_far (p := ⟨gb304, 4, none⟩) (Kd.V_far (p := ⟨gb304, 3, none⟩) (Kd.V_far (p := ⟨gb304, 2, none⟩) (Kd.V_far (p := ⟨gb304, 1, none⟩) (Kd.V_far (p := ⟨gb304, 0, none⟩) (Kd.V_mono HO_296006.out (fun k_ hk => (⟨hk, hk.2⟩ : _ ∧ k_ ≠ gb304))) (fun _ hk => hk.2) (.string a1_0)) (fun _ hk => hk.2) (.int .i64 a1_1)) (fun _ hk => hk.2) (.int .i64 a1_2)) (fun _ hk => hk.2) (.int .i64 a1_3)) (fun _ hk => hk.2) (.int .i64 a1_4)) (fun _ hk => hk.2) (.int .i64 a1_5)) (fun _ hk => hk.2) (.slice A1_6 l1_6.length c1_6)) (fun _ hk => hk.2) (.slice A1_7 l1_7.length c1_7)) (fun _ hk => (And.intro hk.1.1.1.1.1 (And.intro hk.1.1.1.2 (And.intro hk.1.1.1.1.2 (And.intro hk.1.1.2 hk.1.2)))))⟩, ⟨by (with_reducible repeat (first | apply Kd.V_alloc | apply Kd.V_drewN | apply Kd.V_drew)); exact Kd.V_mono (Kd.V_far (p := ⟨gb304, 7, none⟩) (Kd.V_far (p := ⟨gb304, 6, none⟩) (Kd.V_far (p := ⟨gb304, 5, none⟩) (Kd.V_far (p := ⟨gb304, 4, none⟩) (Kd.V_far (p := ⟨gb304, 3, none⟩) (Kd.V_far (p := ⟨gb304, 2, none⟩) (Kd.V_far (p := ⟨gb304, 1, none⟩) (Kd.V_far (p := ⟨gb304, 0, none⟩) (Kd.V_mono HO_296007.out (fun k_ hk => (⟨hk, hk.2⟩ : _ ∧ k_ ≠ gb304))) (fun _ hk => hk.2) (.string a1_0)) (fun _ hk => hk.2) (.int .i64 a1_1)) (fun _ hk => hk.2) (.int .i64 a1_2)) (fun _ hk => hk.2) (.int .i64 a1_3)) (fun _ hk => hk.2) (.int .i64 a1_4)) (fun _ hk => hk.2) (.int .i64 a1_5)) (fun _ hk => hk.2) (.slice A1_6 l1_6.length c1_6)) (fun _ hk => hk.2) (.slice A1_7 l1_7.length c1_7)) (fun _ hk => (And.intro hk.1.1.1.1.1 (And.intro hk.1.1.1.2 (And.intro hk.1.1.1.1.2 (And.intro hk.1.1.2 hk.1.2)))))⟩, ⟨by (with_reducible repeat (first | apply Kd.V_alloc | apply Kd.V_drewN | apply Kd.V_drew)); exact Kd.V_mono (Kd.V_far (p := ⟨gb304, 7, none⟩) (Kd.V_far (p := ⟨gb304, 6, none⟩) (Kd.V_far (p := ⟨gb304, 5, none⟩) (Kd.V_far (p := ⟨gb304, 4, none⟩) (Kd.V_far (p := ⟨gb304, 3, none⟩) (Kd.V_far (p := ⟨gb304, 2, none⟩) (Kd.V_far (p := ⟨gb304, 1, none⟩) (Kd.V_far (p := ⟨gb304, 0, none⟩) (Kd.V_mono HO_296006.out (fun k_ hk => (⟨hk, hk.2⟩ : _ ∧ k_ ≠ gb304))) (fun _ hk => hk.2) (.string a1_0)) (fun _ hk => hk.2) (.int .i64 a1_1)) (fun _ hk => hk.2) (.int .i64 a1_2)) (fun _ hk => hk.2) (.int .i64 a1_3)) (fun _ hk => hk.2) (.int .i64 a1_4)) (fun _ hk => hk.2) (.int .i64 a1_5)) (fun _ hk => hk.2) (.slice A1_6 l1_6.length c1_6)) (fun _ hk => hk.2) (.slice A1_7 l1_7.length c1_7)) (fun _ hk => (And.intro hk.1.1.1.1.1 (And.intro hk.1.1.1.2 (And.intro hk.1.1.1.1.2 (And.intro hk.1.1.2 hk.1.2)))))⟩, ⟨by (with_reducible repeat (first | apply Kd.V_alloc | apply Kd.V_drewN | apply Kd.V_drew)); exact Kd.V_mono (Kd.V_far (p := ⟨gb304, 7, none⟩) (Kd.V_far (p := ⟨gb304, 6, none⟩) (Kd.V_far (p := ⟨gb304, 5, none⟩) (Kd.V_far (p := ⟨gb304, 4, none⟩) (Kd.V_far (p := ⟨gb304, 3, none⟩) (Kd.V_far (p := ⟨gb304, 2, none⟩) (Kd.V_far (p := ⟨gb304, 1, none⟩) (Kd.V_far (p := ⟨gb304, 0, none⟩) (Kd.V_mono HO_296007.out (fun k_ hk => (⟨hk, hk.2⟩ : _ ∧ k_ ≠ gb304))) (fun _ hk => hk.2) (.string a1_0)) (fun _ hk => hk.2) (.int .i64 a1_1)) (fun _ hk => hk.2) (.int .i64 a1_2)) (fun _ hk => hk.2) (.int .i64 a1_3)) (fun _ hk => hk.2) (.int .i64 a1_4)) (fun _ hk => hk.2) (.int .i64 a1_5)) (fun _ hk => hk.2) (.slice A1_6 l1_6.length c1_6)) (fun _ hk => hk.2) (.slice A1_7 l1_7.length c1_7)) (fun _ hk => (And.intro hk.1.1.1.1.1 (And.intro hk.1.1.1.2 (And.intro hk.1.1.1.1.2 (And.intro hk.1.1.2 hk.1.2)))))⟩, ⟨by (with_reducible repeat (first | refine blk_drewN ?_ _ | refine blk_drew ?_ | refine blk_alloc ?_ _)); refine blk_far ?_ NB295_304.out _; (with_reducible repeat (first | refine blk_drewN ?_ _ | refine blk_drew ?_ | refine blk_alloc ?_ _)); refine blk_far ?_ NB295_304.out _; (with_reducible repeat (first | refine blk_drewN ?_ _ | refine blk_drew ?_ | refine blk_alloc ?_ _)); refine blk_far ?_ NB295_304.out _; (with_reducible repeat (first | refine blk_drewN ?_ _ | refine blk_drew ?_ | refine blk_alloc ?_ _)); refine blk_far ?_ NB295_304.out _; (with_reducible repeat (first | refine blk_drewN ?_ _ | refine blk_drew ?_ | refine blk_alloc ?_ _)); refine blk_far ?_ NB295_304.out _; (with_reducible repeat (first | refine blk_drewN ?_ _ | refine blk_drew ?_ | refine blk_alloc ?_ _)); refine blk_far ?_ NB295_304.out _; (with_reducible repeat (first | refine blk_drewN ?_ _ | refine blk_drew ?_ | refine blk_alloc ?_ _)); refine blk_far ?_ NB295_304.out _; (with_reducible repeat (first | refine blk_drewN ?_ _ | refine blk_drew ?_ | refine blk_alloc ?_ _)); refine blk_far ?_ NB295_304.out _; (with_reducible repeat (first | refine blk_drewN ?_ _ | refine blk_drew ?_ | refine blk_alloc ?_ _)); exact BK295.out⟩, ⟨by (with_reducible repeat (first | refine blk_drewN ?_ _ | refine blk_drew ?_ | refine blk_alloc ?_ _)); refine blk_far ?_ NB303_304.out _; (with_reducible repeat (first | refine blk_drewN ?_ _ | refine blk_drew ?_ | refine blk_alloc ?_ _)); refine blk_far ?_ NB303_304.out _; (with_reducible repeat (first | refine blk_drewN ?_ _ | refine blk_drew ?_ | refine blk_alloc ?_ _)); refine blk_far ?_ NB303_304.out _; (with_reducible repeat (first | refine blk_drewN ?_ _ | refine blk_drew ?_ | refine blk_alloc ?_ _)); refine blk_far ?_ NB303_304.out _; (with_reducible repeat (first | refine blk_drewN ?_ _ | refine blk_drew ?_ | refine blk_alloc ?_ _)); refine blk_far ?_ NB303_304.out _; (with_reducible repeat (first | refine blk_drewN ?_ _ | refine blk_drew ?_ | refine blk_alloc ?_ _)); refine blk_far ?_ NB303_304.out _; (with_reducible repeat (first | refine blk_drewN ?_ _ | refine blk_drew ?_ | refine blk_alloc ?_ _)); refine blk_far ?_ NB303_304.out _; (with_reducible repeat (first | refine blk_drewN ?_ _ | refine blk_drew ?_ | refine blk_alloc ?_ _)); refine blk_far ?_ NB303_304.out _; (with_reducible repeat (first | refine blk_drewN ?_ _ | refine blk_drew ?_ | refine blk_alloc ?_ _)); exact BK303.out⟩, ⟨by (with_reducible repeat (first | refine blk_drewN ?_ _ | refine blk_drew ?_ | refine blk_alloc ?_ _)); refine blk_put (cs := #[.string a1_0, .int .i64 a1_1, .int .i64 a1_2, .int .i64 a1_3, .int .i64 a1_4, .int .i64 a1_5, .slice A1_6 l1_6.length c1_6, .slice none 0 0]) ?_ 7 _ rfl; (with_reducible repeat (first | refine blk_drewN ?_ _ | refine blk_drew ?_ | refine blk_alloc ?_ _)); refine blk_put (cs := #[.string a1_0, .int .i64 a1_1, .int .i64 a1_2, .int .i64 a1_3, .int .i64 a1_4, .int .i64 a1_5, .slice none 0 0, .slice none 0 0]) ?_ 6 _ rfl; (with_reducible repeat (first | refine blk_drewN ?_ _ | refine blk_drew ?_ | refine blk_alloc ?_ _)); refine blk_put (cs := #[.string a1_0, .int .i64 a1_1, .int .i64 a1_2, .int .i64 a1_3, .int .i64 a1_4, .int .i64 0, .slice none 0 0, .slice none 0 0]) ?_ 5 _ rfl; (with_reducible repeat (first | refine blk_drewN ?_ _ | refine blk_drew ?_ | refine blk_alloc ?_ _)); refine blk_put (cs := #[.string a1_0, .int .i64 a1_1, .int .i64 a1_2, .int .i64 a1_3, .int .i64 0, .int .i64 0, .slice none 0 0, .slice none 0 0]) ?_ 4 _ rfl; (with_reducible repeat (first | refine blk_drewN ?_ _ | refine blk_drew ?_ | refine blk_alloc ?_ _)); refine blk_put (cs := #[.string a1_0, .int .i64 a1_1, .int .i64 a1_2, .int .i64 0, .int .i64 0, .int .i64 0, .slice none 0 0, .slice none 0 0]) ?_ 3 _ rfl; (with_reducible repeat (first | refine blk_drewN ?_ _ | refine blk_drew ?_ | refine blk_alloc ?_ _)); refine blk_put (cs := #[.string a1_0, .int .i64 a1_1, .int .i64 0, .int .i64 0, .int .i64 0, .int .i64 0, .slice none 0 0, .slice none 0 0]) ?_ 2 _ rfl; (with_reducible repeat (first | refine blk_drewN ?_ _ | refine blk_drew ?_ | refine blk_alloc ?_ _)); refine blk_put (cs := #[.string a1_0, .int .i64 0, .int .i64 0, .int .i64 0, .int .i64 0, .int .i64 0, .slice none 0 0, .slice none 0 0]) ?_ 1 _ rfl; (with_reducible repeat (first | refine blk_drewN ?_ _ | refine blk_drew ?_ | refine blk_alloc ?_ _)); refine blk_put (cs := #[.string (⟨#[]⟩ : ByteArray), .int .i64 0, .int .i64 0, .int .i64 0, .int .i64 0, .int .i64 0, .slice none 0 0, .slice none 0 0]) ?_ 0 _ rfl; (with_reducible repeat (first | refine blk_drewN ?_ _ | refine blk_drew ?_ | refine blk_alloc ?_ _)); exact BK304.out⟩, ⟨by repeat (first | (with_reducible first | exact HB.out | apply below_alloc | apply pw_below_drewN | apply below_drew1 | refine below_set ?_ GE295.out | refine below_set ?_ GE303.out | refine below_set ?_ GE304.out) | exact HB.out)⟩⟩
     case round =>
      clear H'
      (try clear c14); (try clear c18); (try clear c18b0); (try clear c18b1); (try clear c18b2); (try clear hcz25_0); (try clear hcz25_1); (try clear hcz25_2); (try clear hcz25_3); (try clear hcz25_4); (try clear hcz25_5); (try clear hcz25_6); (try clear hcz25_7); (try clear hcz28_0); (try clear hcz28_1); (try clear hcz28_2); (try clear hcz28_3); (try clear hcz28_4); (try clear hcz28_5); (try clear hcz28_6); (try clear hcz28_7); (try clear hcz31_0); (try clear hcz31_1); (try clear hcz31_2); (try clear hcz31_3); (try clear hcz31_4); (try clear hcz31_5); (try clear hcz31_6); (try clear hcz31_7); (try clear hcz32_0); (try clear hcz32_1); (try clear hcz32_2); (try clear hcz32_3); (try clear hcz32_4); (try clear hcz32_5); (try clear hcz32_6); (try clear hcz32_7); (try clear hcz36_0); (try clear hcz36_1); (try clear hcz36_2); (try clear hcz36_3); (try clear hcz36_4); (try clear hcz36_5); (try clear hcz36_6); (try clear hcz36_7); (try clear hfz25_0); (try clear hfz25_1); (try clear hfz25_2); (try clear hfz25_3); (try clear hfz25_4); (try clear hfz25_5); (try clear hfz25_6); (try clear hfz25_7); (try clear hfz28_0); (try clear hfz28_1); (try clear hfz28_2); (try clear hfz28_3); (try clear hfz28_4); (try clear hfz28_5); (try clear hfz28_6); (try clear hfz28_7); (try clear hfz31_0); (try clear hfz31_1); (try clear hfz31_2); (try clear hfz31_3); (try clear hfz31_4); (try clear hfz31_5); (try clear hfz31_6); (try clear hfz31_7); (try clear hfz32_0); (try clear hfz32_1); (try clear hfz32_2); (try clear hfz32_3); (try clear hfz32_4); (try clear hfz32_5); (try clear hfz32_6); (try clear hfz32_7); (try clear hfz36_0); (try clear hfz36_1); (try clear hfz36_2); (try clear hfz36_3); (try clear hfz36_4); (try clear hfz36_5); (try clear hfz36_6); (try clear hfz36_7)
      obtain ⟨x12_2, x304000_2, x304001_2, x304002_2, x304003_2, x304004_2, x304005_2, x304006_2, x304007_2, x305000_2, x305001_2, x305002_2, x305003_2, x305004_2, x305005_2, x305006_2, x305007_2, u304006, u304007, u305006, u305007, rfl, HA, HK2, HO_8, HO_296006, HO_296007, HO_304006, HO_304007, HO_305006, HO_305007, BK295, BK303, BK304, HB⟩ := hrel
      cases gk with
      | zero => exact absurd HA.out (by simp [entrepotlaw12_ExpressTurned.l0])
      | succ k2 =>
       have H := HA.out
       clear HA
       simp only [entrepotlaw12_ExpressTurned.l0] at H
       by_cases c37 : x12_2 < (t299.length : Int)
       ·rw [if_pos c37] at H
        have c37b0 : decide (x12_2 < (t299.length : Int)) = true := decide_eq_true c37
        clear c37
        by_cases c38 : 0 ≤ x12_2
        ·rw [if_pos c38] at H
         have c38b0 : decide (0 ≤ x12_2) = true := decide_eq_true c38
         clear c38
         replace H := Option.bind_eq_some_iff.mp H
         obtain ⟨⟨t312, t313, t314, t315, t316, t317, t318, t321⟩, A390, H⟩ := H
         replace H : (if x12_2 = (Int.tmod (wrap64 (a2)) (t299.length : Int)) then (entrepotlaw12_ExpressTurned.l0 k2 (wrap64 (1 + (Int.tmod (wrap64 (a0)) 3))) t299 (Int.tmod (wrap64 (a2)) (t299.length : Int)) (wrap64 (x12_2 + 1)) t312 t313 t314 t315 t316 t317 t318 t321 x305000_2 x305001_2 x305002_2 x305003_2 x305004_2 x305005_2 x305006_2 x305007_2) else ((entrepotlaw12_turned.f k2 (wrap64 (1 + (Int.tmod (wrap64 (a0)) 3))) (rd t299 x12_2) x305000_2 x305001_2 x305002_2 x305003_2 x305004_2 x305005_2 x305006_2 x305007_2).bind fun bt325 => (entrepotlaw12_ExpressTurned.l0 k2 (wrap64 (1 + (Int.tmod (wrap64 (a0)) 3))) t299 (Int.tmod (wrap64 (a2)) (t299.length : Int)) (wrap64 (x12_2 + 1)) t312 t313 t314 t315 t316 t317 t318 t321 bt325.1 bt325.2.1 bt325.2.2.1 bt325.2.2.2.1 bt325.2.2.2.2.1 bt325.2.2.2.2.2.1 bt325.2.2.2.2.2.2.1 bt325.2.2.2.2.2.2.2))) = some r := H
         have A39 := Aside0.mk A390
         clear A390
         by_cases c40 : x12_2 = (Int.tmod (wrap64 (a2)) (t299.length : Int))
         ·rw [if_pos c40] at H
          have c40b0 : (x12_2 == (Int.tmod (wrap64 (a2)) (t299.length : Int))) = true := beq_iff_eq.mpr c40
          have c40b1 : (x12_2 != (Int.tmod (wrap64 (a2)) (t299.length : Int))) = false := bne_eq_false_iff_eq.mpr c40
          clear c40
          have H' := Aside0.mk H
          clear H
          try go_wp2
          have n0_ := Aside0.mk (Kd.R_drew HO_8.out)
          have n1_ := Aside0.mk (Kd.V_drew HO_296006.out)
          have n2_ := Aside0.mk (Kd.V_drew HO_296007.out)
          have n3_ := Aside0.mk (Kd.V_drew HO_304006.out)
          have n4_ := Aside0.mk (Kd.V_drew HO_304007.out)
          have n5_ := Aside0.mk (Kd.V_drew HO_305006.out)
          have n6_ := Aside0.mk (Kd.V_drew HO_305007.out)
          have n7_ := Aside0.mk (blk_drew BK295.out)
          have n8_ := Aside0.mk (blk_drew BK303.out)
          have n9_ := Aside0.mk (blk_drew BK304.out)
          have n10_ := Aside0.mk (below_drew1 HB.out)
          clear HO_8
          clear HO_296006
          clear HO_296007
          clear HO_304006
          clear HO_304007
          clear HO_305006
          clear HO_305007
          clear BK295
          clear BK303
          clear BK304
          clear HB
          have HO_8 := n0_
          have HO_296006 := n1_
          have HO_296007 := n2_
          have HO_304006 := n3_
          have HO_304007 := n4_
          have HO_305006 := n5_
          have HO_305007 := n6_
          have BK295 := n7_
          have BK303 := n8_
          have BK304 := n9_
          have HB := n10_
          clear n0_ n1_ n2_ n3_ n4_ n5_ n6_ n7_ n8_ n9_ n10_
          have p311 : 0 ≤ (x12_2 : Int) := of_decide_eq_true (by first | (with_reducible assumption) | assumption)
          have q311 : x12_2 < (t299.length : Int) := of_decide_eq_true (by first | (with_reducible assumption) | assumption)
          obtain ⟨ad311, e311, hx311_0⟩ := Kd.at_int (Kd.R_reads' HO_8.out).2.2 x12_2 p311 q311
          cases e311
          replace p311 := eq_true p311
          replace q311 := eq_true q311
          obtain ⟨Ao42, co42, eo42⟩ := Kd.V_slice HO_304006.out
          (first | subst eo42 | (injection eo42 with f1_ f2_ f3_; have f4_ := f1_.symm; have f5_ := f3_.symm; clear f1_ f2_ f3_; subst f4_; subst f5_))
          obtain ⟨Ao43, co43, eo43⟩ := Kd.V_slice HO_304007.out
          (first | subst eo43 | (injection eo43 with f1_ f2_ f3_; have f4_ := f1_.symm; have f5_ := f3_.symm; clear f1_ f2_ f3_; subst f4_; subst f5_))
          refine start_ (n := 8) (S := fun w' => w'.cell? ⟨gb303, 0, none⟩ = some (.string x304000_2) ∧ w'.cell? ⟨gb303, 1, none⟩ = some (.int .i64 x304001_2) ∧ w'.cell? ⟨gb303, 2, none⟩ = some (.int .i64 x304002_2) ∧ w'.cell? ⟨gb303, 3, none⟩ = some (.int .i64 x304003_2) ∧ w'.cell? ⟨gb303, 4, none⟩ = some (.int .i64 x304004_2) ∧ w'.cell? ⟨gb303, 5, none⟩ = some (.int .i64 x304005_2) ∧ w'.cell? ⟨gb303, 6, none⟩ = some (.slice Ao42 x304006_2.length co42) ∧ w'.cell? ⟨gb303, 7, none⟩ = some (.slice Ao43 x304007_2.length co43) ∧ w'.cell? (ad311.add (x12_2).toNat) = some (.int .i64 (rd t299 x12_2))) (ds := [7]) #[false, false, false, false, false, false, false, false] (by kernel_rfl) rfl rfl ⟨(blk_cell BK303.out 0).trans rfl, (blk_cell BK303.out 1).trans rfl, (blk_cell BK303.out 2).trans rfl, (blk_cell BK303.out 3).trans rfl, (blk_cell BK303.out 4).trans rfl, (blk_cell BK303.out 5).trans rfl, (blk_cell BK303.out 6).trans rfl, (blk_cell BK303.out 7).trans rfl, hx311_0⟩ (fun hHeld => ?_); refine with_tabW entrepotlaw12_ExpressTurned.tab13 entrepotlaw12_ExpressTurned.bits13 (fun HT_ HW_ => ?_)
          generalize wr.drew = w41 at HO_8 HO_296006 HO_296007 HO_304006 HO_304007 HO_305006 HO_305007 BK295 BK303 BK304 HB hx311_0 hHeld ⊢
          refine pure_ (i := 0) (N := some 47) (v := ?_) (a' := ?_) #[true, false, false, false, false, false, false, false] rfl rfl (any_of HT_.out (by kernel_rfl)) (fun _ _ _ h => h) (Or.inl ⟨by rfl, ?_⟩) ?_ ?_
          rotate_left
          ·intro w'
           go_simp
           with_reducible rfl
          rotate_left
          ·simp only [Act.put, List.setIfInBounds_toArray, List.set_cons_zero, List.set_cons_succ, i64_w, i32_w]
           rfl
          refine pure_ (i := 1) (N := some 48) (v := ?_) (a' := ?_) #[true, true, false, false, false, false, false, false] rfl rfl (any_of HT_.out (by kernel_rfl)) (fun _ _ _ h => h) (Or.inl ⟨by rfl, ?_⟩) ?_ ?_
          rotate_left
          ·intro w'
           go_simp
           with_reducible rfl
          rotate_left
          ·simp only [Act.put, List.setIfInBounds_toArray, List.set_cons_zero, List.set_cons_succ, i64_w, i32_w]
           rfl
          refine pure_ (i := 2) (N := some 49) (v := ?_) (a' := ?_) #[true, true, true, false, false, false, false, false] rfl rfl (any_of HT_.out (by kernel_rfl)) (fun _ _ _ h => h) (Or.inl ⟨by rfl, ?_⟩) ?_ ?_
          rotate_left
          ·intro w'
           go_simp
           with_reducible rfl
          rotate_left
          ·simp only [Act.put, List.setIfInBounds_toArray, List.set_cons_zero, List.set_cons_succ, i64_w, i32_w]
           rfl
          refine pure_ (i := 3) (N := some 50) (v := ?_) (a' := ?_) #[true, true, true, true, false, false, false, false] rfl rfl (any_of HT_.out (by kernel_rfl)) (fun _ _ _ h => h) (Or.inl ⟨by rfl, ?_⟩) ?_ ?_
          rotate_left
          ·intro w'
           go_simp
           with_reducible rfl
          rotate_left
          ·simp only [Act.put, List.setIfInBounds_toArray, List.set_cons_zero, List.set_cons_succ, i64_w, i32_w]
           rfl
          refine take_ (i := 4) (N := some 51) (v := ?_) (a' := ?_) #[true, true, true, true, true, false, false, false] rfl rfl (take_ofW HT_.out HW_.out (by kernel_rfl)) (fun _ _ _ h => h) (Or.inl ⟨by rfl, ?_⟩) hHeld ?_ ?_
          rotate_left
          ·rintro w' ⟨s0, s1, s2, s3, s4, s5, s6, s7, s8⟩
           go_simp
           with_reducible rfl
          rotate_left
          ·simp only [Act.put, List.setIfInBounds_toArray, List.set_cons_zero, List.set_cons_succ, i64_w, i32_w]
           rfl
          refine take_ (i := 5) (N := some 52) (v := ?_) (a' := ?_) #[true, true, true, true, true, true, false, false] rfl rfl (take_ofW HT_.out HW_.out (by kernel_rfl)) (fun _ _ _ h => h) (Or.inl ⟨by rfl, ?_⟩) hHeld ?_ ?_
          rotate_left
          ·rintro w' ⟨s0, s1, s2, s3, s4, s5, s6, s7, s8⟩
           go_simp
           with_reducible rfl
          rotate_left
          ·simp only [Act.put, List.setIfInBounds_toArray, List.set_cons_zero, List.set_cons_succ, i64_w, i32_w]
           rfl
          refine one_ (i := 6) (N := some 53) #[true, true, true, true, true, true, true, false] rfl rfl (one_of HT_.out (by kernel_rfl)) (by decide) (fun K hK => ?_)
          refine goes_ Try.func15 (by kernel_rfl) rfl #[.int .i64 (wrap64 (1 + (Int.tmod (wrap64 (a0)) 3))), .int .i64 (rd t299 x12_2), .agg #[.string x304000_2, .int .i64 x304001_2, .int .i64 x304002_2, .int .i64 x304003_2, .int .i64 x304004_2, .int .i64 x304005_2, .slice Ao42 x304006_2.length co42, .slice Ao43 x304007_2.length co43]] (by rfl) rfl rfl (by (try simp only [List.map_toArray, List.map_cons, List.map_nil]); first | done | rfl | (simp only [List.length_drop, List.length_take]; rfl)) ?_
          with_reducible refine (entrepotlaw12_turned.calls k2 (wrap64 (1 + (Int.tmod (wrap64 (a0)) 3))) (rd t299 x12_2) x304000_2 x304001_2 x304002_2 x304003_2 x304004_2 x304005_2 _ _ x304006_2 (fun k_ => (((P1_6_ k_ ∨ P1_7_ k_) ∨ w.heap.size ≤ k_) ∧ (some k_ ≠ (.slice (some ad311) t299.length co27 : Value).ownBlock ∧ (k_ ≠ gb295 ∧ (k_ ≠ gb303 ∧ k_ ≠ gb304))))) _ _ x304007_2 t312 t313 t314 t315 t316 t317 t318 t321 _ ?side1 ?side2 ?side3 A39.out).mono ?_
          (case side1 => repeat (first | exact (Kd.V_reads' HO_304006.out).2.2 | (with_reducible refine Kd.C_alloc ?_ _) | (with_reducible refine Kd.C_drewN ?_ _) | (with_reducible refine Kd.C_drew ?_)))
          (case side2 => exact (Kd.V_reads' HO_304006.out).2.1)
          (case side3 => exact HO_304007.out)
          rintro e w44 ⟨v319, v322, rfl, ho0, ho1, hb⟩
          have HS8_ := (hb.cell (World.block_lt_of_cell? _ _ (hHeld.2.2.2.2.2.2.2.2))).trans (hHeld.2.2.2.2.2.2.2.2)
          refine ⟨_, rfl, ?_⟩
          have n0_ := Aside0.mk (Kd.R_below (by (with_reducible repeat (first | apply Kd.R_alloc | apply Kd.R_drewN | apply Kd.R_drew)); exact HO_8.out) hb)
          have n1_ := Aside0.mk (Kd.V_elder' (by (with_reducible repeat (first | apply Kd.V_alloc | apply Kd.V_drewN | apply Kd.V_drew)); exact HO_296006.out) (Kd.R_base ho0) hb)
          have n2_ := Aside0.mk (Kd.V_elder' (by (with_reducible repeat (first | apply Kd.V_alloc | apply Kd.V_drewN | apply Kd.V_drew)); exact HO_296007.out) (Kd.R_base ho0) hb)
          have n3_ := Aside0.mk (Kd.V_elder' (by (with_reducible repeat (first | apply Kd.V_alloc | apply Kd.V_drewN | apply Kd.V_drew)); exact HO_304006.out) (Kd.R_base ho0) hb)
          have n4_ := Aside0.mk (Kd.V_elder' (by (with_reducible repeat (first | apply Kd.V_alloc | apply Kd.V_drewN | apply Kd.V_drew)); exact HO_304007.out) (Kd.R_base ho0) hb)
          have n5_ := Aside0.mk (Kd.V_elder' (by (with_reducible repeat (first | apply Kd.V_alloc | apply Kd.V_drewN | apply Kd.V_drew)); exact HO_305006.out) (Kd.R_base ho0) hb)
          have n6_ := Aside0.mk (Kd.V_elder' (by (with_reducible repeat (first | apply Kd.V_alloc | apply Kd.V_drewN | apply Kd.V_drew)); exact HO_305007.out) (Kd.R_base ho0) hb)
          have n7_ := Aside0.mk (Kd.R_lower (Kd.R_newM (M := fun k_ => (w.heap.size ≤ k_)) (Kd.R_mono (ok' := fun k_ => True) ho0 (fun _ hk_ => trivial)) (below_size (by repeat (first | (with_reducible first | exact HB.out | apply below_alloc | apply pw_below_drewN | apply below_drew1 | refine below_set ?_ GE295.out | refine below_set ?_ GE303.out | refine below_set ?_ GE304.out) | exact HB.out))) (fun k_ h_ => h_)) (below_size (by repeat (first | (with_reducible first | exact HB.out | apply below_alloc | apply pw_below_drewN | apply below_drew1 | refine below_set ?_ GE295.out | refine below_set ?_ GE303.out | refine below_set ?_ GE304.out) | exact HB.out))))
          have n8_ := Aside0.mk (Kd.V_lower (Kd.V_mono (ok' := fun k_ => ((P1_6_ k_ ∨ P1_7_ k_) ∨ w.heap.size ≤ k_) ∧ some k_ ≠ (v319 : Value).ownBlock ∧ some k_ ≠ (.slice (some ad311) t299.length co27 : Value).ownBlock ∧ k_ ≠ gb295 ∧ k_ ≠ gb303 ∧ k_ ≠ gb304) ho1 (fun k_ hk_ => ⟨Or.elim hk_.1 (fun hs_ => hs_.1) (fun hn_ => (.inr (Nat.le_trans (below_size (by repeat (first | (with_reducible first | exact HB.out | apply below_alloc | apply pw_below_drewN | apply below_drew1 | refine below_set ?_ GE295.out | refine below_set ?_ GE303.out | refine below_set ?_ GE304.out) | exact HB.out))) hn_))), hk_.2, Or.elim hk_.1 (fun hs_ => hs_.2.1) (fun hn_ => (Kd.fresh' (Kd.R_lt (by (with_reducible repeat (first | apply Kd.R_alloc | apply Kd.R_drewN | apply Kd.R_drew)); exact HO_8.out)) k_ hn_)), Or.elim hk_.1 (fun hs_ => hs_.2.2.1) (fun hn_ => (Kd.freshB (g := gb295) (o := .cells #[.string a1_0, .int .i64 a1_1, .int .i64 a1_2, .int .i64 a1_3, .int .i64 a1_4, .int .i64 a1_5, .slice A1_6 l1_6.length c1_6, .slice A1_7 l1_7.length c1_7] 25 (0, 0)) (by (with_reducible repeat (first | refine blk_drewN ?_ _ | refine blk_drew ?_ | refine blk_alloc ?_ _)); exact BK295.out) k_ hn_)), Or.elim hk_.1 (fun hs_ => hs_.2.2.2.1) (fun hn_ => (Kd.freshB (g := gb303) (o := .cells #[.string x304000_2, .int .i64 x304001_2, .int .i64 x304002_2, .int .i64 x304003_2, .int .i64 x304004_2, .int .i64 x304005_2, .slice Ao42 x304006_2.length co42, .slice Ao43 x304007_2.length co43] 25 (0, 0)) (by (with_reducible repeat (first | refine blk_drewN ?_ _ | refine blk_drew ?_ | refine blk_alloc ?_ _)); exact BK303.out) k_ hn_)), Or.elim hk_.1 (fun hs_ => hs_.2.2.2.2) (fun hn_ => (Kd.freshB (g := gb304) (o := .cells #[.string x305000_2, .int .i64 x305001_2, .int .i64 x305002_2, .int .i64 x305003_2, .int .i64 x305004_2, .int .i64 x305005_2, u305006, u305007] 25 (0, 0)) (by (with_reducible repeat (first | refine blk_drewN ?_ _ | refine blk_drew ?_ | refine blk_alloc ?_ _)); exact BK304.out) k_ hn_))⟩)) (below_size (by repeat (first | (with_reducible first | exact HB.out | apply below_alloc | apply pw_below_drewN | apply below_drew1 | refine below_set ?_ GE295.out | refine below_set ?_ GE303.out | refine below_set ?_ GE304.out) | exact HB.out))))
          have n9_ := Aside0.mk (blk_below (g := gb295) (o := .cells #[.string a1_0, .int .i64 a1_1, .int .i64 a1_2, .int .i64 a1_3, .int .i64 a1_4, .int .i64 a1_5, .slice A1_6 l1_6.length c1_6, .slice A1_7 l1_7.length c1_7] 25 (0, 0)) (by (with_reducible repeat (first | refine blk_drewN ?_ _ | refine blk_drew ?_ | refine blk_alloc ?_ _)); exact BK295.out) hb)
          have n10_ := Aside0.mk (blk_below (g := gb303) (o := .cells #[.string x304000_2, .int .i64 x304001_2, .int .i64 x304002_2, .int .i64 x304003_2, .int .i64 x304004_2, .int .i64 x304005_2, .slice Ao42 x304006_2.length co42, .slice Ao43 x304007_2.length co43] 25 (0, 0)) (by (with_reducible repeat (first | refine blk_drewN ?_ _ | refine blk_drew ?_ | refine blk_alloc ?_ _)); exact BK303.out) hb)
          have n11_ := Aside0.mk (blk_below (g := gb304) (o := .cells #[.string x305000_2, .int .i64 x305001_2, .int .i64 x305002_2, .int .i64 x305003_2, .int .i64 x305004_2, .int .i64 x305005_2, u305006, u305007] 25 (0, 0)) (by (with_reducible repeat (first | refine blk_drewN ?_ _ | refine blk_drew ?_ | refine blk_alloc ?_ _)); exact BK304.out) hb)
          have n12_ := Aside0.mk (below_step (by repeat (first | (with_reducible first | exact HB.out | apply below_alloc | apply pw_below_drewN | apply below_drew1 | refine below_set ?_ GE295.out | refine below_set ?_ GE303.out | refine below_set ?_ GE304.out) | exact HB.out)) hb)
          clear HO_8
          clear HO_296006
          clear HO_296007
          clear HO_304006
          clear HO_304007
          clear HO_305006
          clear HO_305007
          clear BK295
          clear BK303
          clear BK304
          clear HB
          have HO_8 := n0_
          have HO_296006 := n1_
          have HO_296007 := n2_
          have HO_304006 := n3_
          have HO_304007 := n4_
          have HO_305006 := n5_
          have HO_305007 := n6_
          have HO320 := n7_
          have HO323 := n8_
          have BK295 := n9_
          have BK303 := n10_
          have BK304 := n11_
          have HB := n12_
          clear n0_ n1_ n2_ n3_ n4_ n5_ n6_ n7_ n8_ n9_ n10_ n11_ n12_
          (try clear hb)
          (try clear hb2)
          (try clear hk)
          (try clear hi)
          (try clear ho0)
          (try clear ho1)
          obtain ⟨Ao51, co51, eo51⟩ := Kd.R_slice HO320.out
          (first | subst eo51 | (injection eo51 with f1_ f2_ f3_; have f4_ := f1_.symm; have f5_ := f3_.symm; clear f1_ f2_ f3_; subst f4_; subst f5_))
          obtain ⟨Ao53, co53, eo53⟩ := Kd.V_slice HO323.out
          (first | subst eo53 | (injection eo53 with f1_ f2_ f3_; have f4_ := f1_.symm; have f5_ := f3_.symm; clear f1_ f2_ f3_; subst f4_; subst f5_))
          refine hK.out _ _ ⟨(blk_cell BK303.out 0).trans rfl, (blk_cell BK303.out 1).trans rfl, (blk_cell BK303.out 2).trans rfl, (blk_cell BK303.out 3).trans rfl, (blk_cell BK303.out 4).trans rfl, (blk_cell BK303.out 5).trans rfl, (blk_cell BK303.out 6).trans rfl, (blk_cell BK303.out 7).trans rfl, HS8_⟩ (fun hHeld => ?_)
          clear hK K
          refine norm_ (a' := ?_) ?_ ?_
          rotate_left
          ·show Act.put _ (some 53) _ = _
           simp only [Act.put, List.setIfInBounds_toArray, List.set_cons_zero, List.set_cons_succ, i64_w, i32_w]
           rfl
          refine last_ (i := 7) (N := none) #[true, true, true, true, true, true, true, true] rfl rfl (one_of HT_.out (by kernel_rfl)) (by decide) (fun K hK => ?_)
          have hs45 : w44.cell? ⟨gb303, 0, none⟩ = some (.string x304000_2) := (blk_cell BK303.out 0).trans rfl
          have hfs45 := blk_frozen BK303.out 0
          have hns45_0 := NB295_303.out
          have hns45_2 := NB304_303.out
          have hms45_0 := NB303_295.out
          have hms45_2 := NB303_304.out
          have hs46 : w44.cell? ⟨gb303, 1, none⟩ = some (.int .i64 x304001_2) := (blk_cell BK303.out 1).trans rfl
          have hfs46 := blk_frozen BK303.out 1
          have hns46_0 := NB295_303.out
          have hns46_2 := NB304_303.out
          have hms46_0 := NB303_295.out
          have hms46_2 := NB303_304.out
          have hs47 : w44.cell? ⟨gb303, 2, none⟩ = some (.int .i64 x304002_2) := (blk_cell BK303.out 2).trans rfl
          have hfs47 := blk_frozen BK303.out 2
          have hns47_0 := NB295_303.out
          have hns47_2 := NB304_303.out
          have hms47_0 := NB303_295.out
          have hms47_2 := NB303_304.out
          have hs48 : w44.cell? ⟨gb303, 3, none⟩ = some (.int .i64 x304003_2) := (blk_cell BK303.out 3).trans rfl
          have hfs48 := blk_frozen BK303.out 3
          have hns48_0 := NB295_303.out
          have hns48_2 := NB304_303.out
          have hms48_0 := NB303_295.out
          have hms48_2 := NB303_304.out
          have hs49 : w44.cell? ⟨gb303, 4, none⟩ = some (.int .i64 x304004_2) := (blk_cell BK303.out 4).trans rfl
          have hfs49 := blk_frozen BK303.out 4
          have hns49_0 := NB295_303.out
          have hns49_2 := NB304_303.out
          have hms49_0 := NB303_295.out
          have hms49_2 := NB303_304.out
          have hs50 : w44.cell? ⟨gb303, 5, none⟩ = some (.int .i64 x304005_2) := (blk_cell BK303.out 5).trans rfl
          have hfs50 := blk_frozen BK303.out 5
          have hns50_0 := NB295_303.out
          have hns50_2 := NB304_303.out
          have hms50_0 := NB303_295.out
          have hms50_2 := NB303_304.out
          have hs52 : w44.cell? ⟨gb303, 6, none⟩ = some (.slice Ao42 x304006_2.length co42) := (blk_cell BK303.out 6).trans rfl
          have hfs52 := blk_frozen BK303.out 6
          have hns52_0 := NB295_303.out
          have hns52_2 := NB304_303.out
          have hms52_0 := NB303_295.out
          have hms52_2 := NB303_304.out
          have hs54 : w44.cell? ⟨gb303, 7, none⟩ = some (.slice Ao43 x304007_2.length co43) := (blk_cell BK303.out 7).trans rfl
          have hfs54 := blk_frozen BK303.out 7
          have hns54_0 := NB295_303.out
          have hns54_2 := NB304_303.out
          have hms54_0 := NB303_295.out
          have hms54_2 := NB303_304.out
          refine skip_ (w1 := ?_) (by rfl) rfl ?_ ?_
          rotate_left
          ·go_simp
           rfl
          refine hK.out _ _ ?_
          clear hK K
          refine done_ (done_of HT_.out (by kernel_rfl)) ?_
          try go_wp2
          go_roundg k2
          case measure => have := HJ3.out; have := HK2.out; omega
          case rel => exact ⟨(wrap64 (x12_2 + 1)), (t312), (t313), (t314), (t315), (t316), (t317), (t318), (t321), (x305000_2), (x305001_2), (x305002_2), (x305003_2), (x305004_2), (x305005_2), (x305006_2), (x305007_2), (.slice Ao51 t318.length co51), (.slice Ao53 t321.length co53), (u305006), (u305007), (by first | rfl | (simp; done) | (simp [*]; done)), H', ⟨by have := HJ3.out; have := HK2.out; omega⟩, ⟨by (with_reducible repeat (first | apply Kd.R_alloc | apply Kd.R_drewN | apply Kd.R_drew)); exact Kd.R_mono (Kd.R_far (p := ⟨gb303, 7, none⟩) (Kd.R_far (p := ⟨gb303, 6, none⟩) (Kd.R_far (p := ⟨gb303, 5, none⟩) (Kd.R_far (p := ⟨gb303, 4, none⟩) (Kd.R_far (p := ⟨gb303, 3, none⟩) (Kd.R_far (p := ⟨gb303, 2, none⟩) (Kd.R_far (p := ⟨gb303, 1, none⟩) (Kd.R_far (p := ⟨gb303, 0, none⟩) (Kd.R_types HO_8.out BK303.out (by decide)) (fun _ hk => hk.2) (.string t312)) (fun _ hk => hk.2) (.int .i64 t313)) (fun _ hk => hk.2) (.int .i64 t314)) (fun _ hk => hk.2) (.int .i64 t315)) (fun _ hk => hk.2) (.int .i64 t316)) (fun _ hk => hk.2) (.int .i64 t317)) (fun _ hk => hk.2) (.slice Ao51 t318.length co51)) (fun _ hk => hk.2) (.slice Ao53 t321.length co53)) (fun _ hk => hk.1)⟩, ⟨by (with_reducible repeat (first | apply Kd.V_alloc | apply Kd.V_drewN | apply Kd.V_drew)); exact Kd.V_mono (Kd.V_far (p := ⟨gb303, 7, none⟩) (Kd.V_far (p := ⟨gb303, 6, none⟩) (Kd.V_far (p := ⟨gb303, 5, none⟩) (Kd.V_far (p := ⟨gb303, 4, none⟩) (Kd.V_far (p := ⟨gb303, 3, none⟩) (Kd.V_far (p := ⟨gb303, 2, none⟩) (Kd.V_far (p := ⟨gb303, 1, none⟩) (Kd.V_far (p := ⟨gb303, 0, none⟩) (Kd.V_mono HO_296006.out (fun k_ hk => (⟨hk, hk.1.2.2.2.1⟩ : _ ∧ k_ ≠ gb303))) (fun _ hk => hk.2) (.string t312)) (fun _ hk => hk.2) (.int .i64 t313)) (fun _ hk => hk.2) (.int .i64 t314)) (fun _ hk => hk.2) (.int .i64 t315)) (fun _ hk => hk.2) (.int .i64 t316)) (fun _ hk => hk.2) (.int .i64 t317)) (fun _ hk => hk.2) (.slice Ao51 t318.length co51)) (fun _ hk => hk.2) (.slice Ao53 t321.length co53)) (fun _ hk => (And.intro hk.1.1.1 (And.intro hk.1.1.2.1 (And.intro hk.1.1.2.2.1 (And.intro hk.1.1.2.2.2.1 hk.1.1.2.2.2.2)))))⟩, ⟨by (with_reducible repeat (first | apply Kd.V_alloc | apply Kd.V_drewN | apply Kd.V_drew)); exact Kd.V_mono (Kd.V_far (p := ⟨gb303, 7, none⟩) (Kd.V_far (p := ⟨gb303, 6, none⟩) (Kd.V_far (p := ⟨gb303, 5, none⟩) (Kd.V_far (p := ⟨gb303, 4, none⟩) (Kd.V_far (p := ⟨gb303, 3, none⟩) (Kd.V_far (p := ⟨gb303, 2, none⟩) (Kd.V_far (p := ⟨gb303, 1, none⟩) (Kd.V_far (p := ⟨gb303, 0, none⟩) (Kd.V_mono HO_296007.out (fun k_ hk => (⟨hk, hk.1.2.2.2.1⟩ : _ ∧ k_ ≠ gb303))) (fun _ hk => hk.2) (.string t312)) (fun _ hk => hk.2) (.int .i64 t313)) (fun _ hk => hk.2) (.int .i64 t314)) (fun _ hk => hk.2) (.int .i64 t315)) (fun _ hk => hk.2) (.int .i64 t316)) (fun _ hk => hk.2) (.int .i64 t317)) (fun _ hk => hk.2) (.slice Ao51 t318.length co51)) (fun _ hk => hk.2) (.slice Ao53 t321.length co53)) (fun _ hk => (And.intro hk.1.1.1 (And.intro hk.1.1.2.1 (And.intro hk.1.1.2.2.1 (And.intro hk.1.1.2.2.2.1 hk.1.1.2.2.2.2)))))⟩, ⟨Kd.V_mono (Kd.R_V (by (with_reducible repeat (first | apply Kd.R_alloc | apply Kd.R_drewN | apply Kd.R_drew)); exact Kd.R_mono (Kd.R_far (p := ⟨gb303, 7, none⟩) (Kd.R_far (p := ⟨gb303, 6, none⟩) (Kd.R_far (p := ⟨gb303, 5, none⟩) (Kd.R_far (p := ⟨gb303, 4, none⟩) (Kd.R_far (p := ⟨gb303, 3, none⟩) (Kd.R_far (p := ⟨gb303, 2, none⟩) (Kd.R_far (p := ⟨gb303, 1, none⟩) (Kd.R_far (p := ⟨gb303, 0, none⟩) (Kd.R_types (Kd.R_types (Kd.R_types (Kd.R_types (Kd.R_apart' HO320.out (Kd.R_typed HO_8.out) (by decide)) BK295.out (by decide)) BK303.out (by decide)) BK304.out (by decide)) BK303.out (by decide)) (fun _ hk => hk.2) (.string t312)) (fun _ hk => hk.2) (.int .i64 t313)) (fun _ hk => hk.2) (.int .i64 t314)) (fun _ hk => hk.2) (.int .i64 t315)) (fun _ hk => hk.2) (.int .i64 t316)) (fun _ hk => hk.2) (.int .i64 t317)) (fun _ hk => hk.2) (.slice Ao51 t318.length co51)) (fun _ hk => hk.2) (.slice Ao53 t321.length co53)) (fun _ hk => (And.intro hk.1.1.1.1.1.1 (And.intro hk.1.1.1.1.2 (And.intro hk.1.1.1.2 (And.intro hk.1.1.2 hk.1.2))))))) (fun k_ hk => by first | exact ⟨(.inr (hk.1)), hk.2⟩ | exact (.inr (hk)))⟩, ⟨by (with_reducible repeat (first | apply Kd.V_alloc | apply Kd.V_drewN | apply Kd.V_drew)); exact Kd.V_mono (Kd.V_far (p := ⟨gb303, 7, none⟩) (Kd.V_far (p := ⟨gb303, 6, none⟩) (Kd.V_far (p := ⟨gb303, 5, none⟩) (Kd.V_far (p := ⟨gb303, 4, none⟩) (Kd.V_far (p := ⟨gb303, 3, none⟩) (Kd.V_far (p := ⟨gb303, 2, none⟩) (Kd.V_far (p := ⟨gb303, 1, none⟩) (Kd.V_far (p := ⟨gb303, 0, none⟩) (Kd.V_mono HO323.out (fun k_ hk => (⟨hk, hk.2.2.2.2.1⟩ : _ ∧ k_ ≠ gb303))) (fun _ hk => hk.2) (.string t312)) (fun _ hk => hk.2) (.int .i64 t313)) (fun _ hk => hk.2) (.int .i64 t314)) (fun _ hk => hk.2) (.int .i64 t315)) (fun _ hk => hk.2) (.int .i64 t316)) (fun _ hk => hk.2) (.int .i64 t317)) (fun _ hk => hk.2) (.slice Ao51 t318.length co51)) (fun _ hk => hk.2) (.slice Ao53 t321.length co53)) (fun _ hk => (And.intro hk.1.1 (And.intro hk.1.2.2.1 (And.intro hk.1.2.2.2.1 (And.intro hk.1.2.2.2.2.1 hk.1.2.2.2.2.2)))))⟩, ⟨by (with_reducible repeat (first | apply Kd.V_alloc | apply Kd.V_drewN | apply Kd.V_drew)); exact Kd.V_mono (Kd.V_far (p := ⟨gb303, 7, none⟩) (Kd.V_far (p := ⟨gb303, 6, none⟩) (Kd.V_far (p := ⟨gb303, 5, none⟩) (Kd.V_far (p := ⟨gb303, 4, none⟩) (Kd.V_far (p := ⟨gb303, 3, none⟩) (Kd.V_far (p := ⟨gb303, 2, none⟩) (Kd.V_far (p := ⟨gb303, 1, none⟩) (Kd.V_far (p := ⟨gb303, 0, none⟩) (Kd.V_mono HO_305006.out (fun k_ hk => (⟨hk, hk.1.2.2.2.1⟩ : _ ∧ k_ ≠ gb303))) (fun _ hk => hk.2) (.string t312)) (fun _ hk => hk.2) (.int .i64 t313)) (fun _ hk => hk.2) (.int .i64 t314)) (fun _ hk => hk.2) (.int .i64 t315)) (fun _ hk => hk.2) (.int .i64 t316)) (fun _ hk => hk.2) (.int .i64 t317)) (fun _ hk => hk.2) (.slice Ao51 t318.length co51)) (fun _ hk => hk.2) (.slice Ao53 t321.length co53)) (fun _ hk => (And.intro hk.1.1.1 (And.intro hk.1.1.2.1 (And.intro hk.1.1.2.2.1 (And.intro hk.1.1.2.2.2.1 hk.1.1.2.2.2.2)))))⟩, ⟨by (with_reducible repeat (first | apply Kd.V_alloc | apply Kd.V_drewN | apply Kd.V_drew)); exact Kd.V_mono (Kd.V_far (p := ⟨gb303, 7, none⟩) (Kd.V_far (p := ⟨gb303, 6, none⟩) (Kd.V_far (p := ⟨gb303, 5, none⟩) (Kd.V_far (p := ⟨gb303, 4, none⟩) (Kd.V_far (p := ⟨gb303, 3, none⟩) (Kd.V_far (p := ⟨gb303, 2, none⟩) (Kd.V_far (p := ⟨gb303, 1, none⟩) (Kd.V_far (p := ⟨gb303, 0, none⟩) (Kd.V_mono HO_305007.out (fun k_ hk => (⟨hk, hk.1.2.2.2.1⟩ : _ ∧ k_ ≠ gb303))) (fun _ hk => hk.2) (.string t312)) (fun _ hk => hk.2) (.int .i64 t313)) (fun _ hk => hk.2) (.int .i64 t314)) (fun _ hk => hk.2) (.int .i64 t315)) (fun _ hk => hk.2) (.int .i64 t316)) (fun _ hk => hk.2) (.int .i64 t317)) (fun _ hk => hk.2) (.slice Ao51 t318.length co51)) (fun _ hk => hk.2) (.slice Ao53 t321.length co53)) (fun _ hk => (And.intro hk.1.1.1 (And.intro hk.1.1.2.1 (And.intro hk.1.1.2.2.1 (And.intro hk.1.1.2.2.2.1 hk.1.1.2.2.2.2)))))⟩, ⟨by (with_reducible repeat (first | refine blk_drewN ?_ _ | refine blk_drew ?_ | refine blk_alloc ?_ _)); refine blk_far ?_ NB295_303.out _; (with_reducible repeat (first | refine blk_drewN ?_ _ | refine blk_drew ?_ | refine blk_alloc ?_ _)); refine blk_far ?_ NB295_303.out _; (with_reducible repeat (first | refine blk_drewN ?_ _ | refine blk_drew ?_ | refine blk_alloc ?_ _)); refine blk_far ?_ NB295_303.out _; (with_reducible repeat (first | refine blk_drewN ?_ _ | refine blk_drew ?_ | refine blk_alloc ?_ _)); refine blk_far ?_ NB295_303.out _; (with_reducible repeat (first | refine blk_drewN ?_ _ | refine blk_drew ?_ | refine blk_alloc ?_ _)); refine blk_far ?_ NB295_303.out _; (with_reducible repeat (first | refine blk_drewN ?_ _ | refine blk_drew ?_ | refine blk_alloc ?_ _)); refine blk_far ?_ NB295_303.out _; (with_reducible repeat (first | refine blk_drewN ?_ _ | refine blk_drew ?_ | refine blk_alloc ?_ _)); refine blk_far ?_ NB295_303.out _; (with_reducible repeat (first | refine blk_drewN ?_ _ | refine blk_drew ?_ | refine blk_alloc ?_ _)); refine blk_far ?_ NB295_303.out _; (with_reducible repeat (first | refine blk_drewN ?_ _ | refine blk_drew ?_ | refine blk_alloc ?_ _)); exact BK295.out⟩, ⟨by (with_reducible repeat (first | refine blk_drewN ?_ _ | refine blk_drew ?_ | refine blk_alloc ?_ _)); refine blk_put (cs := #[.string t312, .int .i64 t313, .int .i64 t314, .int .i64 t315, .int .i64 t316, .int .i64 t317, .slice Ao51 t318.length co51, .slice Ao43 x304007_2.length co43]) ?_ 7 _ rfl; (with_reducible repeat (first | refine blk_drewN ?_ _ | refine blk_drew ?_ | refine blk_alloc ?_ _)); refine blk_put (cs := #[.string t312, .int .i64 t313, .int .i64 t314, .int .i64 t315, .int .i64 t316, .int .i64 t317, .slice Ao42 x304006_2.length co42, .slice Ao43 x304007_2.length co43]) ?_ 6 _ rfl; (with_reducible repeat (first | refine blk_drewN ?_ _ | refine blk_drew ?_ | refine blk_alloc ?_ _)); refine blk_put (cs := #[.string t312, .int .i64 t313, .int .i64 t314, .int .i64 t315, .int .i64 t316, .int .i64 x304005_2, .slice Ao42 x304006_2.length co42, .slice Ao43 x304007_2.length co43]) ?_ 5 _ rfl; (with_reducible repeat (first | refine blk_drewN ?_ _ | refine blk_drew ?_ | refine blk_alloc ?_ _)); refine blk_put (cs := #[.string t312, .int .i64 t313, .int .i64 t314, .int .i64 t315, .int .i64 x304004_2, .int .i64 x304005_2, .slice Ao42 x304006_2.length co42, .slice Ao43 x304007_2.length co43]) ?_ 4 _ rfl; (with_reducible repeat (first | refine blk_drewN ?_ _ | refine blk_drew ?_ | refine blk_alloc ?_ _)); refine blk_put (cs := #[.string t312, .int .i64 t313, .int .i64 t314, .int .i64 x304003_2, .int .i64 x304004_2, .int .i64 x304005_2, .slice Ao42 x304006_2.length co42, .slice Ao43 x304007_2.length co43]) ?_ 3 _ rfl; (with_reducible repeat (first | refine blk_drewN ?_ _ | refine blk_drew ?_ | refine blk_alloc ?_ _)); refine blk_put (cs := #[.string t312, .int .i64 t313, .int .i64 x304002_2, .int .i64 x304003_2, .int .i64 x304004_2, .int .i64 x304005_2, .slice Ao42 x304006_2.length co42, .slice Ao43 x304007_2.length co43]) ?_ 2 _ rfl; (with_reducible repeat (first | refine blk_drewN ?_ _ | refine blk_drew ?_ | refine blk_alloc ?_ _)); refine blk_put (cs := #[.string t312, .int .i64 x304001_2, .int .i64 x304002_2, .int .i64 x304003_2, .int .i64 x304004_2, .int .i64 x304005_2, .slice Ao42 x304006_2.length co42, .slice Ao43 x304007_2.length co43]) ?_ 1 _ rfl; (with_reducible repeat (first | refine blk_drewN ?_ _ | refine blk_drew ?_ | refine blk_alloc ?_ _)); refine blk_put (cs := #[.string x304000_2, .int .i64 x304001_2, .int .i64 x304002_2, .int .i64 x304003_2, .int .i64 x304004_2, .int .i64 x304005_2, .slice Ao42 x304006_2.length co42, .slice Ao43 x304007_2.length co43]) ?_ 0 _ rfl; (with_reducible repeat (first | refine blk_drewN ?_ _ | refine blk_drew ?_ | refine blk_alloc ?_ _)); exact BK303.out⟩, ⟨by (with_reducible repeat (first | refine blk_drewN ?_ _ | refine blk_drew ?_ | refine blk_alloc ?_ _)); refine blk_far ?_ NB304_303.out _; (with_reducible repeat (first | refine blk_drewN ?_ _ | refine blk_drew ?_ | refine blk_alloc ?_ _)); refine blk_far ?_ NB304_303.out _; (with_reducible repeat (first | refine blk_drewN ?_ _ | refine blk_drew ?_ | refine blk_alloc ?_ _)); refine blk_far ?_ NB304_303.out _; (with_reducible repeat (first | refine blk_drewN ?_ _ | refine blk_drew ?_ | refine blk_alloc ?_ _)); refine blk_far ?_ NB304_303.out _; (with_reducible repeat (first | refine blk_drewN ?_ _ | refine blk_drew ?_ | refine blk_alloc ?_ _)); refine blk_far ?_ NB304_303.out _; (with_reducible repeat (first | refine blk_drewN ?_ _ | refine blk_drew ?_ | refine blk_alloc ?_ _)); refine blk_far ?_ NB304_303.out _; (with_reducible repeat (first | refine blk_drewN ?_ _ | refine blk_drew ?_ | refine blk_alloc ?_ _)); refine blk_far ?_ NB304_303.out _; (with_reducible repeat (first | refine blk_drewN ?_ _ | refine blk_drew ?_ | refine blk_alloc ?_ _)); refine blk_far ?_ NB304_303.out _; (with_reducible repeat (first | refine blk_drewN ?_ _ | refine blk_drew ?_ | refine blk_alloc ?_ _)); exact BK304.out⟩, ⟨by repeat (first | (with_reducible first | exact HB.out | apply below_alloc | apply pw_below_drewN | apply below_drew1 | refine below_set ?_ GE295.out | refine below_set ?_ GE303.out | refine below_set ?_ GE304.out) | exact HB.out)⟩⟩
         ·rw [if_neg c40] at H
          have c40b0 : (x12_2 == (Int.tmod (wrap64 (a2)) (t299.length : Int))) = false := beq_eq_false_iff_ne.mpr c40
          have c40b1 : (x12_2 != (Int.tmod (wrap64 (a2)) (t299.length : Int))) = true := bne_iff_ne.mpr c40
          replace H := Option.bind_eq_some_iff.mp H
          obtain ⟨⟨t325, t326, t327, t328, t329, t330, t331, t334⟩, A550, H⟩ := H
          replace H : (entrepotlaw12_ExpressTurned.l0 k2 (wrap64 (1 + (Int.tmod (wrap64 (a0)) 3))) t299 (Int.tmod (wrap64 (a2)) (t299.length : Int)) (wrap64 (x12_2 + 1)) t312 t313 t314 t315 t316 t317 t318 t321 t325 t326 t327 t328 t329 t330 t331 t334) = some r := H
          have A55 := Aside0.mk A550
          clear A550
          have H' := Aside0.mk H
          clear H
          try go_wp2
          have n0_ := Aside0.mk (Kd.R_drew HO_8.out)
          have n1_ := Aside0.mk (Kd.V_drew HO_296006.out)
          have n2_ := Aside0.mk (Kd.V_drew HO_296007.out)
          have n3_ := Aside0.mk (Kd.V_drew HO_304006.out)
          have n4_ := Aside0.mk (Kd.V_drew HO_304007.out)
          have n5_ := Aside0.mk (Kd.V_drew HO_305006.out)
          have n6_ := Aside0.mk (Kd.V_drew HO_305007.out)
          have n7_ := Aside0.mk (blk_drew BK295.out)
          have n8_ := Aside0.mk (blk_drew BK303.out)
          have n9_ := Aside0.mk (blk_drew BK304.out)
          have n10_ := Aside0.mk (below_drew1 HB.out)
          clear HO_8
          clear HO_296006
          clear HO_296007
          clear HO_304006
          clear HO_304007
          clear HO_305006
          clear HO_305007
          clear BK295
          clear BK303
          clear BK304
          clear HB
          have HO_8 := n0_
          have HO_296006 := n1_
          have HO_296007 := n2_
          have HO_304006 := n3_
          have HO_304007 := n4_
          have HO_305006 := n5_
          have HO_305007 := n6_
          have BK295 := n7_
          have BK303 := n8_
          have BK304 := n9_
          have HB := n10_
          clear n0_ n1_ n2_ n3_ n4_ n5_ n6_ n7_ n8_ n9_ n10_
          have p311 : 0 ≤ (x12_2 : Int) := of_decide_eq_true (by first | (with_reducible assumption) | assumption)
          have q311 : x12_2 < (t299.length : Int) := of_decide_eq_true (by first | (with_reducible assumption) | assumption)
          obtain ⟨ad311, e311, hx311_0⟩ := Kd.at_int (Kd.R_reads' HO_8.out).2.2 x12_2 p311 q311
          cases e311
          replace p311 := eq_true p311
          replace q311 := eq_true q311
          obtain ⟨Ao57, co57, eo57⟩ := Kd.V_slice HO_304006.out
          (first | subst eo57 | (injection eo57 with f1_ f2_ f3_; have f4_ := f1_.symm; have f5_ := f3_.symm; clear f1_ f2_ f3_; subst f4_; subst f5_))
          obtain ⟨Ao58, co58, eo58⟩ := Kd.V_slice HO_304007.out
          (first | subst eo58 | (injection eo58 with f1_ f2_ f3_; have f4_ := f1_.symm; have f5_ := f3_.symm; clear f1_ f2_ f3_; subst f4_; subst f5_))
          refine start_ (n := 8) (S := fun w' => w'.cell? ⟨gb303, 0, none⟩ = some (.string x304000_2) ∧ w'.cell? ⟨gb303, 1, none⟩ = some (.int .i64 x304001_2) ∧ w'.cell? ⟨gb303, 2, none⟩ = some (.int .i64 x304002_2) ∧ w'.cell? ⟨gb303, 3, none⟩ = some (.int .i64 x304003_2) ∧ w'.cell? ⟨gb303, 4, none⟩ = some (.int .i64 x304004_2) ∧ w'.cell? ⟨gb303, 5, none⟩ = some (.int .i64 x304005_2) ∧ w'.cell? ⟨gb303, 6, none⟩ = some (.slice Ao57 x304006_2.length co57) ∧ w'.cell? ⟨gb303, 7, none⟩ = some (.slice Ao58 x304007_2.length co58) ∧ w'.cell? (ad311.add (x12_2).toNat) = some (.int .i64 (rd t299 x12_2))) (ds := [7]) #[false, false, false, false, false, false, false, false] (by kernel_rfl) rfl rfl ⟨(blk_cell BK303.out 0).trans rfl, (blk_cell BK303.out 1).trans rfl, (blk_cell BK303.out 2).trans rfl, (blk_cell BK303.out 3).trans rfl, (blk_cell BK303.out 4).trans rfl, (blk_cell BK303.out 5).trans rfl, (blk_cell BK303.out 6).trans rfl, (blk_cell BK303.out 7).trans rfl, hx311_0⟩ (fun hHeld => ?_); refine with_tabW entrepotlaw12_ExpressTurned.tab13 entrepotlaw12_ExpressTurned.bits13 (fun HT_ HW_ => ?_)
          generalize wr.drew = w56 at HO_8 HO_296006 HO_296007 HO_304006 HO_304007 HO_305006 HO_305007 BK295 BK303 BK304 HB hx311_0 hHeld ⊢
          refine pure_ (i := 0) (N := some 47) (v := ?_) (a' := ?_) #[true, false, false, false, false, false, false, false] rfl rfl (any_of HT_.out (by kernel_rfl)) (fun _ _ _ h => h) (Or.inl ⟨by rfl, ?_⟩) ?_ ?_
          rotate_left
          ·intro w'
           go_simp
           with_reducible rfl
          rotate_left
          ·simp only [Act.put, List.setIfInBounds_toArray, List.set_cons_zero, List.set_cons_succ, i64_w, i32_w]
           rfl
          refine pure_ (i := 1) (N := some 48) (v := ?_) (a' := ?_) #[true, true, false, false, false, false, false, false] rfl rfl (any_of HT_.out (by kernel_rfl)) (fun _ _ _ h => h) (Or.inl ⟨by rfl, ?_⟩) ?_ ?_
          rotate_left
          ·intro w'
           go_simp
           with_reducible rfl
          rotate_left
          ·simp only [Act.put, List.setIfInBounds_toArray, List.set_cons_zero, List.set_cons_succ, i64_w, i32_w]
           rfl
          refine pure_ (i := 2) (N := some 49) (v := ?_) (a' := ?_) #[true, true, true, false, false, false, false, false] rfl rfl (any_of HT_.out (by kernel_rfl)) (fun _ _ _ h => h) (Or.inl ⟨by rfl, ?_⟩) ?_ ?_
          rotate_left
          ·intro w'
           go_simp
           with_reducible rfl
          rotate_left
          ·simp only [Act.put, List.setIfInBounds_toArray, List.set_cons_zero, List.set_cons_succ, i64_w, i32_w]
           rfl
          refine pure_ (i := 3) (N := some 50) (v := ?_) (a' := ?_) #[true, true, true, true, false, false, false, false] rfl rfl (any_of HT_.out (by kernel_rfl)) (fun _ _ _ h => h) (Or.inl ⟨by rfl, ?_⟩) ?_ ?_
          rotate_left
          ·intro w'
           go_simp
           with_reducible rfl
          rotate_left
          ·simp only [Act.put, List.setIfInBounds_toArray, List.set_cons_zero, List.set_cons_succ, i64_w, i32_w]
           rfl
          refine take_ (i := 4) (N := some 51) (v := ?_) (a' := ?_) #[true, true, true, true, true, false, false, false] rfl rfl (take_ofW HT_.out HW_.out (by kernel_rfl)) (fun _ _ _ h => h) (Or.inl ⟨by rfl, ?_⟩) hHeld ?_ ?_
          rotate_left
          ·rintro w' ⟨s0, s1, s2, s3, s4, s5, s6, s7, s8⟩
           go_simp
           with_reducible rfl
          rotate_left
          ·simp only [Act.put, List.setIfInBounds_toArray, List.set_cons_zero, List.set_cons_succ, i64_w, i32_w]
           rfl
          refine take_ (i := 5) (N := some 52) (v := ?_) (a' := ?_) #[true, true, true, true, true, true, false, false] rfl rfl (take_ofW HT_.out HW_.out (by kernel_rfl)) (fun _ _ _ h => h) (Or.inl ⟨by rfl, ?_⟩) hHeld ?_ ?_
          rotate_left
          ·rintro w' ⟨s0, s1, s2, s3, s4, s5, s6, s7, s8⟩
           go_simp
           with_reducible rfl
          rotate_left
          ·simp only [Act.put, List.setIfInBounds_toArray, List.set_cons_zero, List.set_cons_succ, i64_w, i32_w]
           rfl
          refine one_ (i := 6) (N := some 53) #[true, true, true, true, true, true, true, false] rfl rfl (one_of HT_.out (by kernel_rfl)) (by decide) (fun K hK => ?_)
          refine goes_ Try.func15 (by kernel_rfl) rfl #[.int .i64 (wrap64 (1 + (Int.tmod (wrap64 (a0)) 3))), .int .i64 (rd t299 x12_2), .agg #[.string x304000_2, .int .i64 x304001_2, .int .i64 x304002_2, .int .i64 x304003_2, .int .i64 x304004_2, .int .i64 x304005_2, .slice Ao57 x304006_2.length co57, .slice Ao58 x304007_2.length co58]] (by rfl) rfl rfl (by (try simp only [List.map_toArray, List.map_cons, List.map_nil]); first | done | rfl | (simp only [List.length_drop, List.length_take]; rfl)) ?_
          with_reducible refine (entrepotlaw12_turned.calls k2 (wrap64 (1 + (Int.tmod (wrap64 (a0)) 3))) (rd t299 x12_2) x304000_2 x304001_2 x304002_2 x304003_2 x304004_2 x304005_2 _ _ x304006_2 (fun k_ => (((P1_6_ k_ ∨ P1_7_ k_) ∨ w.heap.size ≤ k_) ∧ (some k_ ≠ (.slice (some ad311) t299.length co27 : Value).ownBlock ∧ (k_ ≠ gb295 ∧ (k_ ≠ gb303 ∧ k_ ≠ gb304))))) _ _ x304007_2 t312 t313 t314 t315 t316 t317 t318 t321 _ ?side1 ?side2 ?side3 A39.out).mono ?_
          (case side1 => repeat (first | exact (Kd.V_reads' HO_304006.out).2.2 | (with_reducible refine Kd.C_alloc ?_ _) | (with_reducible refine Kd.C_drewN ?_ _) | (with_reducible refine Kd.C_drew ?_)))
          (case side2 => exact (Kd.V_reads' HO_304006.out).2.1)
          (case side3 => exact HO_304007.out)
          rintro e w59 ⟨v319, v322, rfl, ho0, ho1, hb⟩
          have HS8_ := (hb.cell (World.block_lt_of_cell? _ _ (hHeld.2.2.2.2.2.2.2.2))).trans (hHeld.2.2.2.2.2.2.2.2)
          refine ⟨_, rfl, ?_⟩
          have n0_ := Aside0.mk (Kd.R_below (by (with_reducible repeat (first | apply Kd.R_alloc | apply Kd.R_drewN | apply Kd.R_drew)); exact HO_8.out) hb)
          have n1_ := Aside0.mk (Kd.V_elder' (by (with_reducible repeat (first | apply Kd.V_alloc | apply Kd.V_drewN | apply Kd.V_drew)); exact HO_296006.out) (Kd.R_base ho0) hb)
          have n2_ := Aside0.mk (Kd.V_elder' (by (with_reducible repeat (first | apply Kd.V_alloc | apply Kd.V_drewN | apply Kd.V_drew)); exact HO_296007.out) (Kd.R_base ho0) hb)
          have n3_ := Aside0.mk (Kd.V_elder' (by (with_reducible repeat (first | apply Kd.V_alloc | apply Kd.V_drewN | apply Kd.V_drew)); exact HO_304006.out) (Kd.R_base ho0) hb)
          have n4_ := Aside0.mk (Kd.V_elder' (by (with_reducible repeat (first | apply Kd.V_alloc | apply Kd.V_drewN | apply Kd.V_drew)); exact HO_304007.out) (Kd.R_base ho0) hb)
          have n5_ := Aside0.mk (Kd.V_elder' (by (with_reducible repeat (first | apply Kd.V_alloc | apply Kd.V_drewN | apply Kd.V_drew)); exact HO_305006.out) (Kd.R_base ho0) hb)
          have n6_ := Aside0.mk (Kd.V_elder' (by (with_reducible repeat (first | apply Kd.V_alloc | apply Kd.V_drewN | apply Kd.V_drew)); exact HO_305007.out) (Kd.R_base ho0) hb)
          have n7_ := Aside0.mk (Kd.R_lower (Kd.R_newM (M := fun k_ => (w.heap.size ≤ k_)) (Kd.R_mono (ok' := fun k_ => True) ho0 (fun _ hk_ => trivial)) (below_size (by repeat (first | (with_reducible first | exact HB.out | apply below_alloc | apply pw_below_drewN | apply below_drew1 | refine below_set ?_ GE295.out | refine below_set ?_ GE303.out | refine below_set ?_ GE304.out) | exact HB.out))) (fun k_ h_ => h_)) (below_size (by repeat (first | (with_reducible first | exact HB.out | apply below_alloc | apply pw_below_drewN | apply below_drew1 | refine below_set ?_ GE295.out | refine below_set ?_ GE303.out | refine below_set ?_ GE304.out) | exact HB.out))))
          have n8_ := Aside0.mk (Kd.V_lower (Kd.V_mono (ok' := fun k_ => ((P1_6_ k_ ∨ P1_7_ k_) ∨ w.heap.size ≤ k_) ∧ some k_ ≠ (v319 : Value).ownBlock ∧ some k_ ≠ (.slice (some ad311) t299.length co27 : Value).ownBlock ∧ k_ ≠ gb295 ∧ k_ ≠ gb303 ∧ k_ ≠ gb304) ho1 (fun k_ hk_ => ⟨Or.elim hk_.1 (fun hs_ => hs_.1) (fun hn_ => (.inr (Nat.le_trans (below_size (by repeat (first | (with_reducible first | exact HB.out | apply below_alloc | apply pw_below_drewN | apply below_drew1 | refine below_set ?_ GE295.out | refine below_set ?_ GE303.out | refine below_set ?_ GE304.out) | exact HB.out))) hn_))), hk_.2, Or.elim hk_.1 (fun hs_ => hs_.2.1) (fun hn_ => (Kd.fresh' (Kd.R_lt (by (with_reducible repeat (first | apply Kd.R_alloc | apply Kd.R_drewN | apply Kd.R_drew)); exact HO_8.out)) k_ hn_)), Or.elim hk_.1 (fun hs_ => hs_.2.2.1) (fun hn_ => (Kd.freshB (g := gb295) (o := .cells #[.string a1_0, .int .i64 a1_1, .int .i64 a1_2, .int .i64 a1_3, .int .i64 a1_4, .int .i64 a1_5, .slice A1_6 l1_6.length c1_6, .slice A1_7 l1_7.length c1_7] 25 (0, 0)) (by (with_reducible repeat (first | refine blk_drewN ?_ _ | refine blk_drew ?_ | refine blk_alloc ?_ _)); exact BK295.out) k_ hn_)), Or.elim hk_.1 (fun hs_ => hs_.2.2.2.1) (fun hn_ => (Kd.freshB (g := gb303) (o := .cells #[.string x304000_2, .int .i64 x304001_2, .int .i64 x304002_2, .int .i64 x304003_2, .int .i64 x304004_2, .int .i64 x304005_2, .slice Ao57 x304006_2.length co57, .slice Ao58 x304007_2.length co58] 25 (0, 0)) (by (with_reducible repeat (first | refine blk_drewN ?_ _ | refine blk_drew ?_ | refine blk_alloc ?_ _)); exact BK303.out) k_ hn_)), Or.elim hk_.1 (fun hs_ => hs_.2.2.2.2) (fun hn_ => (Kd.freshB (g := gb304) (o := .cells #[.string x305000_2, .int .i64 x305001_2, .int .i64 x305002_2, .int .i64 x305003_2, .int .i64 x305004_2, .int .i64 x305005_2, u305006, u305007] 25 (0, 0)) (by (with_reducible repeat (first | refine blk_drewN ?_ _ | refine blk_drew ?_ | refine blk_alloc ?_ _)); exact BK304.out) k_ hn_))⟩)) (below_size (by repeat (first | (with_reducible first | exact HB.out | apply below_alloc | apply pw_below_drewN | apply below_drew1 | refine below_set ?_ GE295.out | refine below_set ?_ GE303.out | refine below_set ?_ GE304.out) | exact HB.out))))
          have n9_ := Aside0.mk (blk_below (g := gb295) (o := .cells #[.string a1_0, .int .i64 a1_1, .int .i64 a1_2, .int .i64 a1_3, .int .i64 a1_4, .int .i64 a1_5, .slice A1_6 l1_6.length c1_6, .slice A1_7 l1_7.length c1_7] 25 (0, 0)) (by (with_reducible repeat (first | refine blk_drewN ?_ _ | refine blk_drew ?_ | refine blk_alloc ?_ _)); exact BK295.out) hb)
          have n10_ := Aside0.mk (blk_below (g := gb303) (o := .cells #[.string x304000_2, .int .i64 x304001_2, .int .i64 x304002_2, .int .i64 x304003_2, .int .i64 x304004_2, .int .i64 x304005_2, .slice Ao57 x304006_2.length co57, .slice Ao58 x304007_2.length co58] 25 (0, 0)) (by (with_reducible repeat (first | refine blk_drewN ?_ _ | refine blk_drew ?_ | refine blk_alloc ?_ _)); exact BK303.out) hb)
          have n11_ := Aside0.mk (blk_below (g := gb304) (o := .cells #[.string x305000_2, .int .i64 x305001_2, .int .i64 x305002_2, .int .i64 x305003_2, .int .i64 x305004_2, .int .i64 x305005_2, u305006, u305007] 25 (0, 0)) (by (with_reducible repeat (first | refine blk_drewN ?_ _ | refine blk_drew ?_ | refine blk_alloc ?_ _)); exact BK304.out) hb)
          have n12_ := Aside0.mk (below_step (by repeat (first | (with_reducible first | exact HB.out | apply below_alloc | apply pw_below_drewN | apply below_drew1 | refine below_set ?_ GE295.out | refine below_set ?_ GE303.out | refine below_set ?_ GE304.out) | exact HB.out)) hb)
          clear HO_8
          clear HO_296006
          clear HO_296007
          clear HO_304006
          clear HO_304007
          clear HO_305006
          clear HO_305007
          clear BK295
          clear BK303
          clear BK304
          clear HB
          have HO_8 := n0_
          have HO_296006 := n1_
          have HO_296007 := n2_
          have HO_304006 := n3_
          have HO_304007 := n4_
          have HO_305006 := n5_
          have HO_305007 := n6_
          have HO320 := n7_
          have HO323 := n8_
          have BK295 := n9_
          have BK303 := n10_
          have BK304 := n11_
          have HB := n12_
          clear n0_ n1_ n2_ n3_ n4_ n5_ n6_ n7_ n8_ n9_ n10_ n11_ n12_
          (try clear hb)
          (try clear hb2)
          (try clear hk)
          (try clear hi)
          (try clear ho0)
          (try clear ho1)
          obtain ⟨Ao66, co66, eo66⟩ := Kd.R_slice HO320.out
          (first | subst eo66 | (injection eo66 with f1_ f2_ f3_; have f4_ := f1_.symm; have f5_ := f3_.symm; clear f1_ f2_ f3_; subst f4_; subst f5_))
          obtain ⟨Ao68, co68, eo68⟩ := Kd.V_slice HO323.out
          (first | subst eo68 | (injection eo68 with f1_ f2_ f3_; have f4_ := f1_.symm; have f5_ := f3_.symm; clear f1_ f2_ f3_; subst f4_; subst f5_))
          refine hK.out _ _ ⟨(blk_cell BK303.out 0).trans rfl, (blk_cell BK303.out 1).trans rfl, (blk_cell BK303.out 2).trans rfl, (blk_cell BK303.out 3).trans rfl, (blk_cell BK303.out 4).trans rfl, (blk_cell BK303.out 5).trans rfl, (blk_cell BK303.out 6).trans rfl, (blk_cell BK303.out 7).trans rfl, HS8_⟩ (fun hHeld => ?_)
          clear hK K
          refine norm_ (a' := ?_) ?_ ?_
          rotate_left
          ·show Act.put _ (some 53) _ = _
           simp only [Act.put, List.setIfInBounds_toArray, List.set_cons_zero, List.set_cons_succ, i64_w, i32_w]
           rfl
          refine last_ (i := 7) (N := none) #[true, true, true, true, true, true, true, true] rfl rfl (one_of HT_.out (by kernel_rfl)) (by decide) (fun K hK => ?_)
          have hs60 : w59.cell? ⟨gb303, 0, none⟩ = some (.string x304000_2) := (blk_cell BK303.out 0).trans rfl
          have hfs60 := blk_frozen BK303.out 0
          have hns60_0 := NB295_303.out
          have hns60_2 := NB304_303.out
          have hms60_0 := NB303_295.out
          have hms60_2 := NB303_304.out
          have hs61 : w59.cell? ⟨gb303, 1, none⟩ = some (.int .i64 x304001_2) := (blk_cell BK303.out 1).trans rfl
          have hfs61 := blk_frozen BK303.out 1
          have hns61_0 := NB295_303.out
          have hns61_2 := NB304_303.out
          have hms61_0 := NB303_295.out
          have hms61_2 := NB303_304.out
          have hs62 : w59.cell? ⟨gb303, 2, none⟩ = some (.int .i64 x304002_2) := (blk_cell BK303.out 2).trans rfl
          have hfs62 := blk_frozen BK303.out 2
          have hns62_0 := NB295_303.out
          have hns62_2 := NB304_303.out
          have hms62_0 := NB303_295.out
          have hms62_2 := NB303_304.out
          have hs63 : w59.cell? ⟨gb303, 3, none⟩ = some (.int .i64 x304003_2) := (blk_cell BK303.out 3).trans rfl
          have hfs63 := blk_frozen BK303.out 3
          have hns63_0 := NB295_303.out
          have hns63_2 := NB304_303.out
          have hms63_0 := NB303_295.out
          have hms63_2 := NB303_304.out
          have hs64 : w59.cell? ⟨gb303, 4, none⟩ = some (.int .i64 x304004_2) := (blk_cell BK303.out 4).trans rfl
          have hfs64 := blk_frozen BK303.out 4
          have hns64_0 := NB295_303.out
          have hns64_2 := NB304_303.out
          have hms64_0 := NB303_295.out
          have hms64_2 := NB303_304.out
          have hs65 : w59.cell? ⟨gb303, 5, none⟩ = some (.int .i64 x304005_2) := (blk_cell BK303.out 5).trans rfl
          have hfs65 := blk_frozen BK303.out 5
          have hns65_0 := NB295_303.out
          have hns65_2 := NB304_303.out
          have hms65_0 := NB303_295.out
          have hms65_2 := NB303_304.out
          have hs67 : w59.cell? ⟨gb303, 6, none⟩ = some (.slice Ao57 x304006_2.length co57) := (blk_cell BK303.out 6).trans rfl
          have hfs67 := blk_frozen BK303.out 6
          have hns67_0 := NB295_303.out
          have hns67_2 := NB304_303.out
          have hms67_0 := NB303_295.out
          have hms67_2 := NB303_304.out
          have hs69 : w59.cell? ⟨gb303, 7, none⟩ = some (.slice Ao58 x304007_2.length co58) := (blk_cell BK303.out 7).trans rfl
          have hfs69 := blk_frozen BK303.out 7
          have hns69_0 := NB295_303.out
          have hns69_2 := NB304_303.out
          have hms69_0 := NB303_295.out
          have hms69_2 := NB303_304.out
          refine skip_ (w1 := ?_) (by rfl) rfl ?_ ?_
          rotate_left
          ·go_simp
           rfl
          refine hK.out _ _ ?_
          clear hK K
          refine done_ (done_of HT_.out (by kernel_rfl)) ?_
          try go_wp2
          have n0_ : Aside0 (Kd.R (Kd.int .i64) 3 ((((((((w59.setCell ⟨gb303, 0, none⟩ (.string t312)).setCell ⟨gb303, 1, none⟩ (.int .i64 t313)).setCell ⟨gb303, 2, none⟩ (.int .i64 t314)).setCell ⟨gb303, 3, none⟩ (.int .i64 t315)).setCell ⟨gb303, 4, none⟩ (.int .i64 t316)).setCell ⟨gb303, 5, none⟩ (.int .i64 t317)).setCell ⟨gb303, 6, none⟩ (.slice Ao66 t318.length co66)).setCell ⟨gb303, 7, none⟩ (.slice Ao68 t321.length co68)) w.heap.size (fun k_ => (w.heap.size ≤ k_)) (.slice (some ad311) t299.length co27) t299) := ⟨by (with_reducible repeat (first | apply Kd.R_alloc | apply Kd.R_drewN | apply Kd.R_drew)); exact Kd.R_mono (Kd.R_far (p := ⟨gb303, 7, none⟩) (Kd.R_far (p := ⟨gb303, 6, none⟩) (Kd.R_far (p := ⟨gb303, 5, none⟩) (Kd.R_far (p := ⟨gb303, 4, none⟩) (Kd.R_far (p := ⟨gb303, 3, none⟩) (Kd.R_far (p := ⟨gb303, 2, none⟩) (Kd.R_far (p := ⟨gb303, 1, none⟩) (Kd.R_far (p := ⟨gb303, 0, none⟩) (Kd.R_types HO_8.out BK303.out (by decide)) (fun _ hk => hk.2) (.string t312)) (fun _ hk => hk.2) (.int .i64 t313)) (fun _ hk => hk.2) (.int .i64 t314)) (fun _ hk => hk.2) (.int .i64 t315)) (fun _ hk => hk.2) (.int .i64 t316)) (fun _ hk => hk.2) (.int .i64 t317)) (fun _ hk => hk.2) (.slice Ao66 t318.length co66)) (fun _ hk => hk.2) (.slice Ao68 t321.length co68)) (fun _ hk => hk.1)⟩
          have n1_ : Aside0 (Kd.V k40 40 ((((((((w59.setCell ⟨gb303, 0, none⟩ (.string t312)).setCell ⟨gb303, 1, none⟩ (.int .i64 t313)).setCell ⟨gb303, 2, none⟩ (.int .i64 t314)).setCell ⟨gb303, 3, none⟩ (.int .i64 t315)).setCell ⟨gb303, 4, none⟩ (.int .i64 t316)).setCell ⟨gb303, 5, none⟩ (.int .i64 t317)).setCell ⟨gb303, 6, none⟩ (.slice Ao66 t318.length co66)).setCell ⟨gb303, 7, none⟩ (.slice Ao68 t321.length co68)) w.heap.size (fun k_ => ((P1_6_ k_ ∨ P1_7_ k_) ∨ w.heap.size ≤ k_) ∧ some k_ ≠ (.slice (some ad311) t299.length co27 : Value).ownBlock ∧ some k_ ≠ (.slice Ao66 t318.length co66 : Value).ownBlock ∧ k_ ≠ gb295 ∧ k_ ≠ gb303 ∧ k_ ≠ gb304) (.slice A1_6 l1_6.length c1_6) l1_6) := ⟨by (with_reducible repeat (first | apply Kd.V_alloc | apply Kd.V_drewN | apply Kd.V_drew)); exact Kd.V_mono (Kd.V_far (p := ⟨gb303, 7, none⟩) (Kd.V_far (p := ⟨gb303, 6, none⟩) (Kd.V_far (p := ⟨gb303, 5, none⟩) (Kd.V_far (p := ⟨gb303, 4, none⟩) (Kd.V_far (p := ⟨gb303, 3, none⟩) (Kd.V_far (p := ⟨gb303, 2, none⟩) (Kd.V_far (p := ⟨gb303, 1, none⟩) (Kd.V_far (p := ⟨gb303, 0, none⟩) (Kd.V_mono HO_296006.out (fun k_ hk => (⟨hk, hk.1.2.2.2.1⟩ : _ ∧ k_ ≠ gb303))) (fun _ hk => hk.2) (.string t312)) (fun _ hk => hk.2) (.int .i64 t313)) (fun _ hk => hk.2) (.int .i64 t314)) (fun _ hk => hk.2) (.int .i64 t315)) (fun _ hk => hk.2) (.int .i64 t316)) (fun _ hk => hk.2) (.int .i64 t317)) (fun _ hk => hk.2) (.slice Ao66 t318.length co66)) (fun _ hk => hk.2) (.slice Ao68 t321.length co68)) (fun _ hk => (And.intro hk.1.1.1 (And.intro hk.1.1.2.1 (And.intro hk.1.2 (And.intro hk.1.1.2.2.1 (And.intro hk.1.1.2.2.2.1 hk.1.1.2.2.2.2))))))⟩
          have n2_ : Aside0 (Kd.V (Kd.int .i64) 3 ((((((((w59.setCell ⟨gb303, 0, none⟩ (.string t312)).setCell ⟨gb303, 1, none⟩ (.int .i64 t313)).setCell ⟨gb303, 2, none⟩ (.int .i64 t314)).setCell ⟨gb303, 3, none⟩ (.int .i64 t315)).setCell ⟨gb303, 4, none⟩ (.int .i64 t316)).setCell ⟨gb303, 5, none⟩ (.int .i64 t317)).setCell ⟨gb303, 6, none⟩ (.slice Ao66 t318.length co66)).setCell ⟨gb303, 7, none⟩ (.slice Ao68 t321.length co68)) w.heap.size (fun k_ => ((P1_6_ k_ ∨ P1_7_ k_) ∨ w.heap.size ≤ k_) ∧ some k_ ≠ (.slice (some ad311) t299.length co27 : Value).ownBlock ∧ some k_ ≠ (.slice Ao66 t318.length co66 : Value).ownBlock ∧ k_ ≠ gb295 ∧ k_ ≠ gb303 ∧ k_ ≠ gb304) (.slice A1_7 l1_7.length c1_7) l1_7) := ⟨by (with_reducible repeat (first | apply Kd.V_alloc | apply Kd.V_drewN | apply Kd.V_drew)); exact Kd.V_mono (Kd.V_far (p := ⟨gb303, 7, none⟩) (Kd.V_far (p := ⟨gb303, 6, none⟩) (Kd.V_far (p := ⟨gb303, 5, none⟩) (Kd.V_far (p := ⟨gb303, 4, none⟩) (Kd.V_far (p := ⟨gb303, 3, none⟩) (Kd.V_far (p := ⟨gb303, 2, none⟩) (Kd.V_far (p := ⟨gb303, 1, none⟩) (Kd.V_far (p := ⟨gb303, 0, none⟩) (Kd.V_mono HO_296007.out (fun k_ hk => (⟨hk, hk.1.2.2.2.1⟩ : _ ∧ k_ ≠ gb303))) (fun _ hk => hk.2) (.string t312)) (fun _ hk => hk.2) (.int .i64 t313)) (fun _ hk => hk.2) (.int .i64 t314)) (fun _ hk => hk.2) (.int .i64 t315)) (fun _ hk => hk.2) (.int .i64 t316)) (fun _ hk => hk.2) (.int .i64 t317)) (fun _ hk => hk.2) (.slice Ao66 t318.length co66)) (fun _ hk => hk.2) (.slice Ao68 t321.length co68)) (fun _ hk => (And.intro hk.1.1.1 (And.intro hk.1.1.2.1 (And.intro hk.1.2 (And.intro hk.1.1.2.2.1 (And.intro hk.1.1.2.2.2.1 hk.1.1.2.2.2.2))))))⟩
          have n3_ : Aside0 (Kd.V k40 40 ((((((((w59.setCell ⟨gb303, 0, none⟩ (.string t312)).setCell ⟨gb303, 1, none⟩ (.int .i64 t313)).setCell ⟨gb303, 2, none⟩ (.int .i64 t314)).setCell ⟨gb303, 3, none⟩ (.int .i64 t315)).setCell ⟨gb303, 4, none⟩ (.int .i64 t316)).setCell ⟨gb303, 5, none⟩ (.int .i64 t317)).setCell ⟨gb303, 6, none⟩ (.slice Ao66 t318.length co66)).setCell ⟨gb303, 7, none⟩ (.slice Ao68 t321.length co68)) w.heap.size (fun k_ => ((P1_6_ k_ ∨ P1_7_ k_) ∨ w.heap.size ≤ k_) ∧ some k_ ≠ (.slice (some ad311) t299.length co27 : Value).ownBlock ∧ some k_ ≠ (.slice Ao66 t318.length co66 : Value).ownBlock ∧ k_ ≠ gb295 ∧ k_ ≠ gb303 ∧ k_ ≠ gb304) (.slice Ao57 x304006_2.length co57) x304006_2) := ⟨by (with_reducible repeat (first | apply Kd.V_alloc | apply Kd.V_drewN | apply Kd.V_drew)); exact Kd.V_mono (Kd.V_far (p := ⟨gb303, 7, none⟩) (Kd.V_far (p := ⟨gb303, 6, none⟩) (Kd.V_far (p := ⟨gb303, 5, none⟩) (Kd.V_far (p := ⟨gb303, 4, none⟩) (Kd.V_far (p := ⟨gb303, 3, none⟩) (Kd.V_far (p := ⟨gb303, 2, none⟩) (Kd.V_far (p := ⟨gb303, 1, none⟩) (Kd.V_far (p := ⟨gb303, 0, none⟩) (Kd.V_mono HO_304006.out (fun k_ hk => (⟨hk, hk.1.2.2.2.1⟩ : _ ∧ k_ ≠ gb303))) (fun _ hk => hk.2) (.string t312)) (fun _ hk => hk.2) (.int .i64 t313)) (fun _ hk => hk.2) (.int .i64 t314)) (fun _ hk => hk.2) (.int .i64 t315)) (fun _ hk => hk.2) (.int .i64 t316)) (fun _ hk => hk.2) (.int .i64 t317)) (fun _ hk => hk.2) (.slice Ao66 t318.length co66)) (fun _ hk => hk.2) (.slice Ao68 t321.length co68)) (fun _ hk => (And.intro hk.1.1.1 (And.intro hk.1.1.2.1 (And.intro hk.1.2 (And.intro hk.1.1.2.2.1 (And.intro hk.1.1.2.2.2.1 hk.1.1.2.2.2.2))))))⟩
          have n4_ : Aside0 (Kd.V (Kd.int .i64) 3 ((((((((w59.setCell ⟨gb303, 0, none⟩ (.string t312)).setCell ⟨gb303, 1, none⟩ (.int .i64 t313)).setCell ⟨gb303, 2, none⟩ (.int .i64 t314)).setCell ⟨gb303, 3, none⟩ (.int .i64 t315)).setCell ⟨gb303, 4, none⟩ (.int .i64 t316)).setCell ⟨gb303, 5, none⟩ (.int .i64 t317)).setCell ⟨gb303, 6, none⟩ (.slice Ao66 t318.length co66)).setCell ⟨gb303, 7, none⟩ (.slice Ao68 t321.length co68)) w.heap.size (fun k_ => ((P1_6_ k_ ∨ P1_7_ k_) ∨ w.heap.size ≤ k_) ∧ some k_ ≠ (.slice (some ad311) t299.length co27 : Value).ownBlock ∧ some k_ ≠ (.slice Ao66 t318.length co66 : Value).ownBlock ∧ k_ ≠ gb295 ∧ k_ ≠ gb303 ∧ k_ ≠ gb304) (.slice Ao58 x304007_2.length co58) x304007_2) := ⟨by (with_reducible repeat (first | apply Kd.V_alloc | apply Kd.V_drewN | apply Kd.V_drew)); exact Kd.V_mono (Kd.V_far (p := ⟨gb303, 7, none⟩) (Kd.V_far (p := ⟨gb303, 6, none⟩) (Kd.V_far (p := ⟨gb303, 5, none⟩) (Kd.V_far (p := ⟨gb303, 4, none⟩) (Kd.V_far (p := ⟨gb303, 3, none⟩) (Kd.V_far (p := ⟨gb303, 2, none⟩) (Kd.V_far (p := ⟨gb303, 1, none⟩) (Kd.V_far (p := ⟨gb303, 0, none⟩) (Kd.V_mono HO_304007.out (fun k_ hk => (⟨hk, hk.1.2.2.2.1⟩ : _ ∧ k_ ≠ gb303))) (fun _ hk => hk.2) (.string t312)) (fun _ hk => hk.2) (.int .i64 t313)) (fun _ hk => hk.2) (.int .i64 t314)) (fun _ hk => hk.2) (.int .i64 t315)) (fun _ hk => hk.2) (.int .i64 t316)) (fun _ hk => hk.2) (.int .i64 t317)) (fun _ hk => hk.2) (.slice Ao66 t318.length co66)) (fun _ hk => hk.2) (.slice Ao68 t321.length co68)) (fun _ hk => (And.intro hk.1.1.1 (And.intro hk.1.1.2.1 (And.intro hk.1.2 (And.intro hk.1.1.2.2.1 (And.intro hk.1.1.2.2.2.1 hk.1.1.2.2.2.2))))))⟩
          have n5_ : Aside0 (Kd.V k40 40 ((((((((w59.setCell ⟨gb303, 0, none⟩ (.string t312)).setCell ⟨gb303, 1, none⟩ (.int .i64 t313)).setCell ⟨gb303, 2, none⟩ (.int .i64 t314)).setCell ⟨gb303, 3, none⟩ (.int .i64 t315)).setCell ⟨gb303, 4, none⟩ (.int .i64 t316)).setCell ⟨gb303, 5, none⟩ (.int .i64 t317)).setCell ⟨gb303, 6, none⟩ (.slice Ao66 t318.length co66)).setCell ⟨gb303, 7, none⟩ (.slice Ao68 t321.length co68)) w.heap.size (fun k_ => ((P1_6_ k_ ∨ P1_7_ k_) ∨ w.heap.size ≤ k_) ∧ some k_ ≠ (.slice (some ad311) t299.length co27 : Value).ownBlock ∧ some k_ ≠ (.slice Ao66 t318.length co66 : Value).ownBlock ∧ k_ ≠ gb295 ∧ k_ ≠ gb303 ∧ k_ ≠ gb304) u305006 x305006_2) := ⟨by (with_reducible repeat (first | apply Kd.V_alloc | apply Kd.V_drewN | apply Kd.V_drew)); exact Kd.V_mono (Kd.V_far (p := ⟨gb303, 7, none⟩) (Kd.V_far (p := ⟨gb303, 6, none⟩) (Kd.V_far (p := ⟨gb303, 5, none⟩) (Kd.V_far (p := ⟨gb303, 4, none⟩) (Kd.V_far (p := ⟨gb303, 3, none⟩) (Kd.V_far (p := ⟨gb303, 2, none⟩) (Kd.V_far (p := ⟨gb303, 1, none⟩) (Kd.V_far (p := ⟨gb303, 0, none⟩) (Kd.V_mono HO_305006.out (fun k_ hk => (⟨hk, hk.1.2.2.2.1⟩ : _ ∧ k_ ≠ gb303))) (fun _ hk => hk.2) (.string t312)) (fun _ hk => hk.2) (.int .i64 t313)) (fun _ hk => hk.2) (.int .i64 t314)) (fun _ hk => hk.2) (.int .i64 t315)) (fun _ hk => hk.2) (.int .i64 t316)) (fun _ hk => hk.2) (.int .i64 t317)) (fun _ hk => hk.2) (.slice Ao66 t318.length co66)) (fun _ hk => hk.2) (.slice Ao68 t321.length co68)) (fun _ hk => (And.intro hk.1.1.1 (And.intro hk.1.1.2.1 (And.intro hk.1.2 (And.intro hk.1.1.2.2.1 (And.intro hk.1.1.2.2.2.1 hk.1.1.2.2.2.2))))))⟩
          have n6_ : Aside0 (Kd.V (Kd.int .i64) 3 ((((((((w59.setCell ⟨gb303, 0, none⟩ (.string t312)).setCell ⟨gb303, 1, none⟩ (.int .i64 t313)).setCell ⟨gb303, 2, none⟩ (.int .i64 t314)).setCell ⟨gb303, 3, none⟩ (.int .i64 t315)).setCell ⟨gb303, 4, none⟩ (.int .i64 t316)).setCell ⟨gb303, 5, none⟩ (.int .i64 t317)).setCell ⟨gb303, 6, none⟩ (.slice Ao66 t318.length co66)).setCell ⟨gb303, 7, none⟩ (.slice Ao68 t321.length co68)) w.heap.size (fun k_ => ((P1_6_ k_ ∨ P1_7_ k_) ∨ w.heap.size ≤ k_) ∧ some k_ ≠ (.slice (some ad311) t299.length co27 : Value).ownBlock ∧ some k_ ≠ (.slice Ao66 t318.length co66 : Value).ownBlock ∧ k_ ≠ gb295 ∧ k_ ≠ gb303 ∧ k_ ≠ gb304) u305007 x305007_2) := ⟨by (with_reducible repeat (first | apply Kd.V_alloc | apply Kd.V_drewN | apply Kd.V_drew)); exact Kd.V_mono (Kd.V_far (p := ⟨gb303, 7, none⟩) (Kd.V_far (p := ⟨gb303, 6, none⟩) (Kd.V_far (p := ⟨gb303, 5, none⟩) (Kd.V_far (p := ⟨gb303, 4, none⟩) (Kd.V_far (p := ⟨gb303, 3, none⟩) (Kd.V_far (p := ⟨gb303, 2, none⟩) (Kd.V_far (p := ⟨gb303, 1, none⟩) (Kd.V_far (p := ⟨gb303, 0, none⟩) (Kd.V_mono HO_305007.out (fun k_ hk => (⟨hk, hk.1.2.2.2.1⟩ : _ ∧ k_ ≠ gb303))) (fun _ hk => hk.2) (.string t312)) (fun _ hk => hk.2) (.int .i64 t313)) (fun _ hk => hk.2) (.int .i64 t314)) (fun _ hk => hk.2) (.int .i64 t315)) (fun _ hk => hk.2) (.int .i64 t316)) (fun _ hk => hk.2) (.int .i64 t317)) (fun _ hk => hk.2) (.slice Ao66 t318.length co66)) (fun _ hk => hk.2) (.slice Ao68 t321.length co68)) (fun _ hk => (And.intro hk.1.1.1 (And.intro hk.1.1.2.1 (And.intro hk.1.2 (And.intro hk.1.1.2.2.1 (And.intro hk.1.1.2.2.2.1 hk.1.1.2.2.2.2))))))⟩
          have n7_ : Aside0 (Kd.R k40 40 ((((((((w59.setCell ⟨gb303, 0, none⟩ (.string t312)).setCell ⟨gb303, 1, none⟩ (.int .i64 t313)).setCell ⟨gb303, 2, none⟩ (.int .i64 t314)).setCell ⟨gb303, 3, none⟩ (.int .i64 t315)).setCell ⟨gb303, 4, none⟩ (.int .i64 t316)).setCell ⟨gb303, 5, none⟩ (.int .i64 t317)).setCell ⟨gb303, 6, none⟩ (.slice Ao66 t318.length co66)).setCell ⟨gb303, 7, none⟩ (.slice Ao68 t321.length co68)) w.heap.size (fun k_ => (w.heap.size ≤ k_)) (.slice Ao66 t318.length co66) t318) := ⟨by (with_reducible repeat (first | apply Kd.R_alloc | apply Kd.R_drewN | apply Kd.R_drew)); exact Kd.R_mono (Kd.R_far (p := ⟨gb303, 7, none⟩) (Kd.R_far (p := ⟨gb303, 6, none⟩) (Kd.R_far (p := ⟨gb303, 5, none⟩) (Kd.R_far (p := ⟨gb303, 4, none⟩) (Kd.R_far (p := ⟨gb303, 3, none⟩) (Kd.R_far (p := ⟨gb303, 2, none⟩) (Kd.R_far (p := ⟨gb303, 1, none⟩) (Kd.R_far (p := ⟨gb303, 0, none⟩) (Kd.R_types HO320.out BK303.out (by decide)) (fun _ hk => hk.2) (.string t312)) (fun _ hk => hk.2) (.int .i64 t313)) (fun _ hk => hk.2) (.int .i64 t314)) (fun _ hk => hk.2) (.int .i64 t315)) (fun _ hk => hk.2) (.int .i64 t316)) (fun _ hk => hk.2) (.int .i64 t317)) (fun _ hk => hk.2) (.slice Ao66 t318.length co66)) (fun _ hk => hk.2) (.slice Ao68 t321.length co68)) (fun _ hk => hk.1.1)⟩
          have n8_ : Aside0 (Kd.V (Kd.int .i64) 3 ((((((((w59.setCell ⟨gb303, 0, none⟩ (.string t312)).setCell ⟨gb303, 1, none⟩ (.int .i64 t313)).setCell ⟨gb303, 2, none⟩ (.int .i64 t314)).setCell ⟨gb303, 3, none⟩ (.int .i64 t315)).setCell ⟨gb303, 4, none⟩ (.int .i64 t316)).setCell ⟨gb303, 5, none⟩ (.int .i64 t317)).setCell ⟨gb303, 6, none⟩ (.slice Ao66 t318.length co66)).setCell ⟨gb303, 7, none⟩ (.slice Ao68 t321.length co68)) w.heap.size (fun k_ => ((P1_6_ k_ ∨ P1_7_ k_) ∨ w.heap.size ≤ k_) ∧ some k_ ≠ (.slice (some ad311) t299.length co27 : Value).ownBlock ∧ some k_ ≠ (.slice Ao66 t318.length co66 : Value).ownBlock ∧ k_ ≠ gb295 ∧ k_ ≠ gb303 ∧ k_ ≠ gb304) (.slice Ao68 t321.length co68) t321) := ⟨by (with_reducible repeat (first | apply Kd.V_alloc | apply Kd.V_drewN | apply Kd.V_drew)); exact Kd.V_mono (Kd.V_far (p := ⟨gb303, 7, none⟩) (Kd.V_far (p := ⟨gb303, 6, none⟩) (Kd.V_far (p := ⟨gb303, 5, none⟩) (Kd.V_far (p := ⟨gb303, 4, none⟩) (Kd.V_far (p := ⟨gb303, 3, none⟩) (Kd.V_far (p := ⟨gb303, 2, none⟩) (Kd.V_far (p := ⟨gb303, 1, none⟩) (Kd.V_far (p := ⟨gb303, 0, none⟩) (Kd.V_mono HO323.out (fun k_ hk => (⟨hk, hk.2.2.2.2.1⟩ : _ ∧ k_ ≠ gb303))) (fun _ hk => hk.2) (.string t312)) (fun _ hk => hk.2) (.int .i64 t313)) (fun _ hk => hk.2) (.int .i64 t314)) (fun _ hk => hk.2) (.int .i64 t315)) (fun _ hk => hk.2) (.int .i64 t316)) (fun _ hk => hk.2) (.int .i64 t317)) (fun _ hk => hk.2) (.slice Ao66 t318.length co66)) (fun _ hk => hk.2) (.slice Ao68 t321.length co68)) (fun _ hk => (And.intro hk.1.1 (And.intro hk.1.2.2.1 (And.intro hk.1.2.1 (And.intro hk.1.2.2.2.1 (And.intro hk.1.2.2.2.2.1 hk.1.2.2.2.2.2))))))⟩
          have n9_ : Aside0 (((((((((w59.setCell ⟨gb303, 0, none⟩ (.string t312)).setCell ⟨gb303, 1, none⟩ (.int .i64 t313)).setCell ⟨gb303, 2, none⟩ (.int .i64 t314)).setCell ⟨gb303, 3, none⟩ (.int .i64 t315)).setCell ⟨gb303, 4, none⟩ (.int .i64 t316)).setCell ⟨gb303, 5, none⟩ (.int .i64 t317)).setCell ⟨gb303, 6, none⟩ (.slice Ao66 t318.length co66)).setCell ⟨gb303, 7, none⟩ (.slice Ao68 t321.length co68)).heap[gb295]? = some (.cells #[.string a1_0, .int .i64 a1_1, .int .i64 a1_2, .int .i64 a1_3, .int .i64 a1_4, .int .i64 a1_5, .slice A1_6 l1_6.length c1_6, .slice A1_7 l1_7.length c1_7] 25 (0, 0))) := ⟨by (with_reducible repeat (first | refine blk_drewN ?_ _ | refine blk_drew ?_ | refine blk_alloc ?_ _)); refine blk_far ?_ NB295_303.out _; (with_reducible repeat (first | refine blk_drewN ?_ _ | refine blk_drew ?_ | refine blk_alloc ?_ _)); refine blk_far ?_ NB295_303.out _; (with_reducible repeat (first | refine blk_drewN ?_ _ | refine blk_drew ?_ | refine blk_alloc ?_ _)); refine blk_far ?_ NB295_303.out _; (with_reducible repeat (first | refine blk_drewN ?_ _ | refine blk_drew ?_ | refine blk_alloc ?_ _)); refine blk_far ?_ NB295_303.out _; (with_reducible repeat (first | refine blk_drewN ?_ _ | refine blk_drew ?_ | refine blk_alloc ?_ _)); refine blk_far ?_ NB295_303.out _; (with_reducible repeat (first | refine blk_drewN ?_ _ | refine blk_drew ?_ | refine blk_alloc ?_ _)); refine blk_far ?_ NB295_303.out _; (with_reducible repeat (first | refine blk_drewN ?_ _ | refine blk_drew ?_ | refine blk_alloc ?_ _)); refine blk_far ?_ NB295_303.out _; (with_reducible repeat (first | refine blk_drewN ?_ _ | refine blk_drew ?_ | refine blk_alloc ?_ _)); refine blk_far ?_ NB295_303.out _; (with_reducible repeat (first | refine blk_drewN ?_ _ | refine blk_drew ?_ | refine blk_alloc ?_ _)); exact BK295.out⟩
          have n10_ : Aside0 (((((((((w59.setCell ⟨gb303, 0, none⟩ (.string t312)).setCell ⟨gb303, 1, none⟩ (.int .i64 t313)).setCell ⟨gb303, 2, none⟩ (.int .i64 t314)).setCell ⟨gb303, 3, none⟩ (.int .i64 t315)).setCell ⟨gb303, 4, none⟩ (.int .i64 t316)).setCell ⟨gb303, 5, none⟩ (.int .i64 t317)).setCell ⟨gb303, 6, none⟩ (.slice Ao66 t318.length co66)).setCell ⟨gb303, 7, none⟩ (.slice Ao68 t321.length co68)).heap[gb303]? = some (.cells #[.string t312, .int .i64 t313, .int .i64 t314, .int .i64 t315, .int .i64 t316, .int .i64 t317, .slice Ao66 t318.length co66, .slice Ao68 t321.length co68] 25 (0, 0))) := ⟨by (with_reducible repeat (first | refine blk_drewN ?_ _ | refine blk_drew ?_ | refine blk_alloc ?_ _)); refine blk_put (cs := #[.string t312, .int .i64 t313, .int .i64 t314, .int .i64 t315, .int .i64 t316, .int .i64 t317, .slice Ao66 t318.length co66, .slice Ao58 x304007_2.length co58]) ?_ 7 _ rfl; (with_reducible repeat (first | refine blk_drewN ?_ _ | refine blk_drew ?_ | refine blk_alloc ?_ _)); refine blk_put (cs := #[.string t312, .int .i64 t313, .int .i64 t314, .int .i64 t315, .int .i64 t316, .int .i64 t317, .slice Ao57 x304006_2.length co57, .slice Ao58 x304007_2.length co58]) ?_ 6 _ rfl; (with_reducible repeat (first | refine blk_drewN ?_ _ | refine blk_drew ?_ | refine blk_alloc ?_ _)); refine blk_put (cs := #[.string t312, .int .i64 t313, .int .i64 t314, .int .i64 t315, .int .i64 t316, .int .i64 x304005_2, .slice Ao57 x304006_2.length co57, .slice Ao58 x304007_2.length co58]) ?_ 5 _ rfl; (with_reducible repeat (first | refine blk_drewN ?_ _ | refine blk_drew ?_ | refine blk_alloc ?_ _)); refine blk_put (cs := #[.string t312, .int .i64 t313, .int .i64 t314, .int .i64 t315, .int .i64 x304004_2, .int .i64 x304005_2, .slice Ao57 x304006_2.length co57, .slice Ao58 x304007_2.length co58]) ?_ 4 _ rfl; (with_reducible repeat (first | refine blk_drewN ?_ _ | refine blk_drew ?_ | refine blk_alloc ?_ _)); refine blk_put (cs := #[.string t312, .int .i64 t313, .int .i64 t314, .int .i64 x304003_2, .int .i64 x304004_2, .int .i64 x304005_2, .slice Ao57 x304006_2.length co57, .slice Ao58 x304007_2.length co58]) ?_ 3 _ rfl; (with_reducible repeat (first | refine blk_drewN ?_ _ | refine blk_drew ?_ | refine blk_alloc ?_ _)); refine blk_put (cs := #[.string t312, .int .i64 t313, .int .i64 x304002_2, .int .i64 x304003_2, .int .i64 x304004_2, .int .i64 x304005_2, .slice Ao57 x304006_2.length co57, .slice Ao58 x304007_2.length co58]) ?_ 2 _ rfl; (with_reducible repeat (first | refine blk_drewN ?_ _ | refine blk_drew ?_ | refine blk_alloc ?_ _)); refine blk_put (cs := #[.string t312, .int .i64 x304001_2, .int .i64 x304002_2, .int .i64 x304003_2, .int .i64 x304004_2, .int .i64 x304005_2, .slice Ao57 x304006_2.length co57, .slice Ao58 x304007_2.length co58]) ?_ 1 _ rfl; (with_reducible repeat (first | refine blk_drewN ?_ _ | refine blk_drew ?_ | refine blk_alloc ?_ _)); refine blk_put (cs := #[.string x304000_2, .int .i64 x304001_2, .int .i64 x304002_2, .int .i64 x304003_2, .int .i64 x304004_2, .int .i64 x304005_2, .slice Ao57 x304006_2.length co57, .slice Ao58 x304007_2.length co58]) ?_ 0 _ rfl; (with_reducible repeat (first | refine blk_drewN ?_ _ | refine blk_drew ?_ | refine blk_alloc ?_ _)); exact BK303.out⟩
          have n11_ : Aside0 (((((((((w59.setCell ⟨gb303, 0, none⟩ (.string t312)).setCell ⟨gb303, 1, none⟩ (.int .i64 t313)).setCell ⟨gb303, 2, none⟩ (.int .i64 t314)).setCell ⟨gb303, 3, none⟩ (.int .i64 t315)).setCell ⟨gb303, 4, none⟩ (.int .i64 t316)).setCell ⟨gb303, 5, none⟩ (.int .i64 t317)).setCell ⟨gb303, 6, none⟩ (.slice Ao66 t318.length co66)).setCell ⟨gb303, 7, none⟩ (.slice Ao68 t321.length co68)).heap[gb304]? = some (.cells #[.string x305000_2, .int .i64 x305001_2, .int .i64 x305002_2, .int .i64 x305003_2, .int .i64 x305004_2, .int .i64 x305005_2, u305006, u305007] 25 (0, 0))) := ⟨by (with_reducible repeat (first | refine blk_drewN ?_ _ | refine blk_drew ?_ | refine blk_alloc ?_ _)); refine blk_far ?_ NB304_303.out _; (with_reducible repeat (first | refine blk_drewN ?_ _ | refine blk_drew ?_ | refine blk_alloc ?_ _)); refine blk_far ?_ NB304_303.out _; (with_reducible repeat (first | refine blk_drewN ?_ _ | refine blk_drew ?_ | refine blk_alloc ?_ _)); refine blk_far ?_ NB304_303.out _; (with_reducible repeat (first | refine blk_drewN ?_ _ | refine blk_drew ?_ | refine blk_alloc ?_ _)); refine blk_far ?_ NB304_303.out _; (with_reducible repeat (first | refine blk_drewN ?_ _ | refine blk_drew ?_ | refine blk_alloc ?_ _)); refine blk_far ?_ NB304_303.out _; (with_reducible repeat (first | refine blk_drewN ?_ _ | refine blk_drew ?_ | refine blk_alloc ?_ _)); refine blk_far ?_ NB304_303.out _; (with_reducible repeat (first | refine blk_drewN ?_ _ | refine blk_drew ?_ | refine blk_alloc ?_ _)); refine blk_far ?_ NB304_303.out _; (with_reducible repeat (first | refine blk_drewN ?_ _ | refine blk_drew ?_ | refine blk_alloc ?_ _)); refine blk_far ?_ NB304_303.out _; (with_reducible repeat (first | refine blk_drewN ?_ _ | refine blk_drew ?_ | refine blk_alloc ?_ _)); exact BK304.out⟩
          have n12_ : Aside0 (Below w.heap.size w ((((((((w59.setCell ⟨gb303, 0, none⟩ (.string t312)).setCell ⟨gb303, 1, none⟩ (.int .i64 t313)).setCell ⟨gb303, 2, none⟩ (.int .i64 t314)).setCell ⟨gb303, 3, none⟩ (.int .i64 t315)).setCell ⟨gb303, 4, none⟩ (.int .i64 t316)).setCell ⟨gb303, 5, none⟩ (.int .i64 t317)).setCell ⟨gb303, 6, none⟩ (.slice Ao66 t318.length co66)).setCell ⟨gb303, 7, none⟩ (.slice Ao68 t321.length co68))) := ⟨by repeat (first | (with_reducible first | exact HB.out | apply below_alloc | apply pw_below_drewN | apply below_drew1 | refine below_set ?_ GE295.out | refine below_set ?_ GE303.out | refine below_set ?_ GE304.out) | exact HB.out)⟩
          (try clear HO_8)
          (try clear HO_296006)
          (try clear HO_296007)
          (try clear HO_304006)
          (try clear HO_304007)
          (try clear HO_305006)
          (try clear HO_305007)
          (try clear HO320)
          (try clear HO323)
          (try clear BK295)
          (try clear BK303)
          (try clear BK304)
          (try clear HB)
          generalize ((((((((w59.setCell ⟨gb303, 0, none⟩ (.string t312)).setCell ⟨gb303, 1, none⟩ (.int .i64 t313)).setCell ⟨gb303, 2, none⟩ (.int .i64 t314)).setCell ⟨gb303, 3, none⟩ (.int .i64 t315)).setCell ⟨gb303, 4, none⟩ (.int .i64 t316)).setCell ⟨gb303, 5, none⟩ (.int .i64 t317)).setCell ⟨gb303, 6, none⟩ (.slice Ao66 t318.length co66)).setCell ⟨gb303, 7, none⟩ (.slice Ao68 t321.length co68)) = w70 at n0_ n1_ n2_ n3_ n4_ n5_ n6_ n7_ n8_ n9_ n10_ n11_ n12_ ⊢
          have HO_8 := n0_
          have HO_296006 := n1_
          have HO_296007 := n2_
          have HO_304006 := n3_
          have HO_304007 := n4_
          have HO_305006 := n5_
          have HO_305007 := n6_
          have HO320 := n7_
          have HO323 := n8_
          have BK295 := n9_
          have BK303 := n10_
          have BK304 := n11_
          have HB := n12_
          clear n0_ n1_ n2_ n3_ n4_ n5_ n6_ n7_ n8_ n9_ n10_ n11_ n12_
          have n0_ := Aside0.mk (Kd.R_drew HO_8.out)
          have n1_ := Aside0.mk (Kd.V_drew HO_296006.out)
          have n2_ := Aside0.mk (Kd.V_drew HO_296007.out)
          have n3_ := Aside0.mk (Kd.V_drew HO_304006.out)
          have n4_ := Aside0.mk (Kd.V_drew HO_304007.out)
          have n5_ := Aside0.mk (Kd.V_drew HO_305006.out)
          have n6_ := Aside0.mk (Kd.V_drew HO_305007.out)
          have n7_ := Aside0.mk (Kd.R_drew HO320.out)
          have n8_ := Aside0.mk (Kd.V_drew HO323.out)
          have n9_ := Aside0.mk (blk_drew BK295.out)
          have n10_ := Aside0.mk (blk_drew BK303.out)
          have n11_ := Aside0.mk (blk_drew BK304.out)
          have n12_ := Aside0.mk (below_drew1 HB.out)
          clear HO_8
          clear HO_296006
          clear HO_296007
          clear HO_304006
          clear HO_304007
          clear HO_305006
          clear HO_305007
          clear HO320
          clear HO323
          clear BK295
          clear BK303
          clear BK304
          clear HB
          have HO_8 := n0_
          have HO_296006 := n1_
          have HO_296007 := n2_
          have HO_304006 := n3_
          have HO_304007 := n4_
          have HO_305006 := n5_
          have HO_305007 := n6_
          have HO320 := n7_
          have HO323 := n8_
          have BK295 := n9_
          have BK303 := n10_
          have BK304 := n11_
          have HB := n12_
          clear n0_ n1_ n2_ n3_ n4_ n5_ n6_ n7_ n8_ n9_ n10_ n11_ n12_
          have p324 : 0 ≤ (x12_2 : Int) := of_decide_eq_true (by first | (with_reducible assumption) | assumption)
          have q324 : x12_2 < (t299.length : Int) := of_decide_eq_true (by first | (with_reducible assumption) | assumption)
          obtain ⟨ad324, e324, hx324_0⟩ := Kd.at_int (Kd.R_reads' HO_8.out).2.2 x12_2 p324 q324
          obtain rfl : ad311 = ad324 := (by injection e324)
          replace p324 := eq_true p324
          replace q324 := eq_true q324
          obtain ⟨Ao72, co72, eo72⟩ := Kd.V_slice HO_305006.out
          (first | subst eo72 | (injection eo72 with f1_ f2_ f3_; have f4_ := f1_.symm; have f5_ := f3_.symm; clear f1_ f2_ f3_; subst f4_; subst f5_))
          obtain ⟨Ao73, co73, eo73⟩ := Kd.V_slice HO_305007.out
          (first | subst eo73 | (injection eo73 with f1_ f2_ f3_; have f4_ := f1_.symm; have f5_ := f3_.symm; clear f1_ f2_ f3_; subst f4_; subst f5_))
          refine start_ (n := 8) (S := fun w' => w'.cell? ⟨gb304, 0, none⟩ = some (.string x305000_2) ∧ w'.cell? ⟨gb304, 1, none⟩ = some (.int .i64 x305001_2) ∧ w'.cell? ⟨gb304, 2, none⟩ = some (.int .i64 x305002_2) ∧ w'.cell? ⟨gb304, 3, none⟩ = some (.int .i64 x305003_2) ∧ w'.cell? ⟨gb304, 4, none⟩ = some (.int .i64 x305004_2) ∧ w'.cell? ⟨gb304, 5, none⟩ = some (.int .i64 x305005_2) ∧ w'.cell? ⟨gb304, 6, none⟩ = some (.slice Ao72 x305006_2.length co72) ∧ w'.cell? ⟨gb304, 7, none⟩ = some (.slice Ao73 x305007_2.length co73) ∧ w'.cell? (ad311.add (x12_2).toNat) = some (.int .i64 (rd t299 x12_2))) (ds := [7]) #[false, false, false, false, false, false, false, false] (by kernel_rfl) rfl rfl ⟨(blk_cell BK304.out 0).trans rfl, (blk_cell BK304.out 1).trans rfl, (blk_cell BK304.out 2).trans rfl, (blk_cell BK304.out 3).trans rfl, (blk_cell BK304.out 4).trans rfl, (blk_cell BK304.out 5).trans rfl, (blk_cell BK304.out 6).trans rfl, (blk_cell BK304.out 7).trans rfl, hx324_0⟩ (fun hHeld => ?_); refine with_tabW entrepotlaw12_ExpressTurned.tab15 entrepotlaw12_ExpressTurned.bits15 (fun HT_ HW_ => ?_)
          generalize w70.drew = w71 at HO_8 HO_296006 HO_296007 HO_304006 HO_304007 HO_305006 HO_305007 HO320 HO323 BK295 BK303 BK304 HB hx324_0 hHeld ⊢
          refine pure_ (i := 0) (N := some 57) (v := ?_) (a' := ?_) #[true, false, false, false, false, false, false, false] rfl rfl (any_of HT_.out (by kernel_rfl)) (fun _ _ _ h => h) (Or.inl ⟨by rfl, ?_⟩) ?_ ?_
          rotate_left
          ·intro w'
           go_simp
           with_reducible rfl
          rotate_left
          ·simp only [Act.put, List.setIfInBounds_toArray, List.set_cons_zero, List.set_cons_succ, i64_w, i32_w]
           rfl
          refine pure_ (i := 1) (N := some 58) (v := ?_) (a' := ?_) #[true, true, false, false, false, false, false, false] rfl rfl (any_of HT_.out (by kernel_rfl)) (fun _ _ _ h => h) (Or.inl ⟨by rfl, ?_⟩) ?_ ?_
          rotate_left
          ·intro w'
           go_simp
           with_reducible rfl
          rotate_left
          ·simp only [Act.put, List.setIfInBounds_toArray, List.set_cons_zero, List.set_cons_succ, i64_w, i32_w]
           rfl
          refine pure_ (i := 2) (N := some 59) (v := ?_) (a' := ?_) #[true, true, true, false, false, false, false, false] rfl rfl (any_of HT_.out (by kernel_rfl)) (fun _ _ _ h => h) (Or.inl ⟨by rfl, ?_⟩) ?_ ?_
          rotate_left
          ·intro w'
           go_simp
           with_reducible rfl
          rotate_left
          ·simp only [Act.put, List.setIfInBounds_toArray, List.set_cons_zero, List.set_cons_succ, i64_w, i32_w]
           rfl
          refine pure_ (i := 3) (N := some 60) (v := ?_) (a' := ?_) #[true, true, true, true, false, false, false, false] rfl rfl (any_of HT_.out (by kernel_rfl)) (fun _ _ _ h => h) (Or.inl ⟨by rfl, ?_⟩) ?_ ?_
          rotate_left
          ·intro w'
           go_simp
           with_reducible rfl
          rotate_left
          ·simp only [Act.put, List.setIfInBounds_toArray, List.set_cons_zero, List.set_cons_succ, i64_w, i32_w]
           rfl
          refine take_ (i := 4) (N := some 61) (v := ?_) (a' := ?_) #[true, true, true, true, true, false, false, false] rfl rfl (take_ofW HT_.out HW_.out (by kernel_rfl)) (fun _ _ _ h => h) (Or.inl ⟨by rfl, ?_⟩) hHeld ?_ ?_
          rotate_left
          ·rintro w' ⟨s0, s1, s2, s3, s4, s5, s6, s7, s8⟩
           go_simp
           with_reducible rfl
          rotate_left
          ·simp only [Act.put, List.setIfInBounds_toArray, List.set_cons_zero, List.set_cons_succ, i64_w, i32_w]
           rfl
          refine take_ (i := 5) (N := some 62) (v := ?_) (a' := ?_) #[true, true, true, true, true, true, false, false] rfl rfl (take_ofW HT_.out HW_.out (by kernel_rfl)) (fun _ _ _ h => h) (Or.inl ⟨by rfl, ?_⟩) hHeld ?_ ?_
          rotate_left
          ·rintro w' ⟨s0, s1, s2, s3, s4, s5, s6, s7, s8⟩
           go_simp
           with_reducible rfl
          rotate_left
          ·simp only [Act.put, List.setIfInBounds_toArray, List.set_cons_zero, List.set_cons_succ, i64_w, i32_w]
           rfl
          refine one_ (i := 6) (N := some 63) #[true, true, true, true, true, true, true, false] rfl rfl (one_of HT_.out (by kernel_rfl)) (by decide) (fun K hK => ?_)
          refine goes_ Try.func15 (by kernel_rfl) rfl #[.int .i64 (wrap64 (1 + (Int.tmod (wrap64 (a0)) 3))), .int .i64 (rd t299 x12_2), .agg #[.string x305000_2, .int .i64 x305001_2, .int .i64 x305002_2, .int .i64 x305003_2, .int .i64 x305004_2, .int .i64 x305005_2, .slice Ao72 x305006_2.length co72, .slice Ao73 x305007_2.length co73]] (by rfl) rfl rfl (by (try simp only [List.map_toArray, List.map_cons, List.map_nil]); first | done | rfl | (simp only [List.length_drop, List.length_take]; rfl)) ?_
          with_reducible refine (entrepotlaw12_turned.calls k2 (wrap64 (1 + (Int.tmod (wrap64 (a0)) 3))) (rd t299 x12_2) x305000_2 x305001_2 x305002_2 x305003_2 x305004_2 x305005_2 _ _ x305006_2 (fun k_ => (((P1_6_ k_ ∨ P1_7_ k_) ∨ w.heap.size ≤ k_) ∧ (some k_ ≠ (.slice (some ad311) t299.length co27 : Value).ownBlock ∧ (some k_ ≠ (.slice Ao66 t318.length co66 : Value).ownBlock ∧ (k_ ≠ gb295 ∧ (k_ ≠ gb303 ∧ k_ ≠ gb304)))))) _ _ x305007_2 t325 t326 t327 t328 t329 t330 t331 t334 _ ?side1 ?side2 ?side3 A55.out).mono ?_
          (case side1 => repeat (first | exact (Kd.V_reads' HO_305006.out).2.2 | (with_reducible refine Kd.C_alloc ?_ _) | (with_reducible refine Kd.C_drewN ?_ _) | (with_reducible refine Kd.C_drew ?_)))
          (case side2 => exact (Kd.V_reads' HO_305006.out).2.1)
          (case side3 => exact HO_305007.out)
          rintro e w74 ⟨v332, v335, rfl, ho0, ho1, hb⟩
          have HS8_ := (hb.cell (World.block_lt_of_cell? _ _ (hHeld.2.2.2.2.2.2.2.2))).trans (hHeld.2.2.2.2.2.2.2.2)
          refine ⟨_, rfl, ?_⟩
          have n0_ := Aside0.mk (Kd.R_below (by (with_reducible repeat (first | apply Kd.R_alloc | apply Kd.R_drewN | apply Kd.R_drew)); exact HO_8.out) hb)
          have n1_ := Aside0.mk (Kd.V_elder' (by (with_reducible repeat (first | apply Kd.V_alloc | apply Kd.V_drewN | apply Kd.V_drew)); exact HO_296006.out) (Kd.R_base ho0) hb)
          have n2_ := Aside0.mk (Kd.V_elder' (by (with_reducible repeat (first | apply Kd.V_alloc | apply Kd.V_drewN | apply Kd.V_drew)); exact HO_296007.out) (Kd.R_base ho0) hb)
          have n3_ := Aside0.mk (Kd.V_elder' (by (with_reducible repeat (first | apply Kd.V_alloc | apply Kd.V_drewN | apply Kd.V_drew)); exact HO_304006.out) (Kd.R_base ho0) hb)
          have n4_ := Aside0.mk (Kd.V_elder' (by (with_reducible repeat (first | apply Kd.V_alloc | apply Kd.V_drewN | apply Kd.V_drew)); exact HO_304007.out) (Kd.R_base ho0) hb)
          have n5_ := Aside0.mk (Kd.V_elder' (by (with_reducible repeat (first | apply Kd.V_alloc | apply Kd.V_drewN | apply Kd.V_drew)); exact HO_305006.out) (Kd.R_base ho0) hb)
          have n6_ := Aside0.mk (Kd.V_elder' (by (with_reducible repeat (first | apply Kd.V_alloc | apply Kd.V_drewN | apply Kd.V_drew)); exact HO_305007.out) (Kd.R_base ho0) hb)
          have n7_ := Aside0.mk (Kd.R_elder' (by (with_reducible repeat (first | apply Kd.R_alloc | apply Kd.R_drewN | apply Kd.R_drew)); exact HO320.out) (Kd.R_base ho0) hb)
          have n8_ := Aside0.mk (Kd.V_elder' (by (with_reducible repeat (first | apply Kd.V_alloc | apply Kd.V_drewN | apply Kd.V_drew)); exact HO323.out) (Kd.R_base ho0) hb)
          have n9_ := Aside0.mk (Kd.R_lower (Kd.R_new' (Kd.R_newM (M := fun k_ => (w.heap.size ≤ k_)) (Kd.R_mono (ok' := fun k_ => True) ho0 (fun _ hk_ => trivial)) (below_size (by repeat (first | (with_reducible first | exact HB.out | apply below_alloc | apply pw_below_drewN | apply below_drew1 | refine below_set ?_ GE295.out | refine below_set ?_ GE303.out | refine below_set ?_ GE304.out) | exact HB.out))) (fun k_ h_ => h_)) (Kd.R_lt (by (with_reducible repeat (first | apply Kd.R_alloc | apply Kd.R_drewN | apply Kd.R_drew)); exact HO320.out))) (below_size (by repeat (first | (with_reducible first | exact HB.out | apply below_alloc | apply pw_below_drewN | apply below_drew1 | refine below_set ?_ GE295.out | refine below_set ?_ GE303.out | refine below_set ?_ GE304.out) | exact HB.out))))
          have n10_ := Aside0.mk (Kd.V_lower (Kd.V_mono (ok' := fun k_ => ((P1_6_ k_ ∨ P1_7_ k_) ∨ w.heap.size ≤ k_) ∧ some k_ ≠ (v332 : Value).ownBlock ∧ some k_ ≠ (.slice (some ad311) t299.length co27 : Value).ownBlock ∧ some k_ ≠ (.slice Ao66 t318.length co66 : Value).ownBlock ∧ k_ ≠ gb295 ∧ k_ ≠ gb303 ∧ k_ ≠ gb304) ho1 (fun k_ hk_ => ⟨Or.elim hk_.1 (fun hs_ => hs_.1) (fun hn_ => (.inr (Nat.le_trans (below_size (by repeat (first | (with_reducible first | exact HB.out | apply below_alloc | apply pw_below_drewN | apply below_drew1 | refine below_set ?_ GE295.out | refine below_set ?_ GE303.out | refine below_set ?_ GE304.out) | exact HB.out))) hn_))), hk_.2, Or.elim hk_.1 (fun hs_ => hs_.2.1) (fun hn_ => (Kd.fresh' (Kd.R_lt (by (with_reducible repeat (first | apply Kd.R_alloc | apply Kd.R_drewN | apply Kd.R_drew)); exact HO_8.out)) k_ hn_)), Or.elim hk_.1 (fun hs_ => hs_.2.2.1) (fun hn_ => (Kd.fresh' (Kd.R_lt (by (with_reducible repeat (first | apply Kd.R_alloc | apply Kd.R_drewN | apply Kd.R_drew)); exact HO320.out)) k_ hn_)), Or.elim hk_.1 (fun hs_ => hs_.2.2.2.1) (fun hn_ => (Kd.freshB (g := gb295) (o := .cells #[.string a1_0, .int .i64 a1_1, .int .i64 a1_2, .int .i64 a1_3, .int .i64 a1_4, .int .i64 a1_5, .slice A1_6 l1_6.length c1_6, .slice A1_7 l1_7.length c1_7] 25 (0, 0)) (by (with_reducible repeat (first | refine blk_drewN ?_ _ | refine blk_drew ?_ | refine blk_alloc ?_ _)); exact BK295.out) k_ hn_)), Or.elim hk_.1 (fun hs_ => hs_.2.2.2.2.1) (fun hn_ => (Kd.freshB (g := gb303) (o := .cells #[.string t312, .int .i64 t313, .int .i64 t314, .int .i64 t315, .int .i64 t316, .int .i64 t317, .slice Ao66 t318.length co66, .slice Ao68 t321.length co68] 25 (0, 0)) (by (with_reducible repeat (first | refine blk_drewN ?_ _ | refine blk_drew ?_ | refine blk_alloc ?_ _)); exact BK303.out) k_ hn_)), Or.elim hk_.1 (fun hs_ => hs_.2.2.2.2.2) (fun hn_ => (Kd.freshB (g := gb304) (o := .cells #[.string x305000_2, .int .i64 x305001_2, .int .i64 x305002_2, .int .i64 x305003_2, .int .i64 x305004_2, .int .i64 x305005_2, .slice Ao72 x305006_2.length co72, .slice Ao73 x305007_2.length co73] 25 (0, 0)) (by (with_reducible repeat (first | refine blk_drewN ?_ _ | refine blk_drew ?_ | refine blk_alloc ?_ _)); exact BK304.out) k_ hn_))⟩)) (below_size (by repeat (first | (with_reducible first | exact HB.out | apply below_alloc | apply pw_below_drewN | apply below_drew1 | refine below_set ?_ GE295.out | refine below_set ?_ GE303.out | refine below_set ?_ GE304.out) | exact HB.out))))
          have n11_ := Aside0.mk (blk_below (g := gb295) (o := .cells #[.string a1_0, .int .i64 a1_1, .int .i64 a1_2, .int .i64 a1_3, .int .i64 a1_4, .int .i64 a1_5, .slice A1_6 l1_6.length c1_6, .slice A1_7 l1_7.length c1_7] 25 (0, 0)) (by (with_reducible repeat (first | refine blk_drewN ?_ _ | refine blk_drew ?_ | refine blk_alloc ?_ _)); exact BK295.out) hb)
          have n12_ := Aside0.mk (blk_below (g := gb303) (o := .cells #[.string t312, .int .i64 t313, .int .i64 t314, .int .i64 t315, .int .i64 t316, .int .i64 t317, .slice Ao66 t318.length co66, .slice Ao68 t321.length co68] 25 (0, 0)) (by (with_reducible repeat (first | refine blk_drewN ?_ _ | refine blk_drew ?_ | refine blk_alloc ?_ _)); exact BK303.out) hb)
          have n13_ := Aside0.mk (blk_below (g := gb304) (o := .cells #[.string x305000_2, .int .i64 x305001_2, .int .i64 x305002_2, .int .i64 x305003_2, .int .i64 x305004_2, .int .i64 x305005_2, .slice Ao72 x305006_2.length co72, .slice Ao73 x305007_2.length co73] 25 (0, 0)) (by (with_reducible repeat (first | refine blk_drewN ?_ _ | refine blk_drew ?_ | refine blk_alloc ?_ _)); exact BK304.out) hb)
          have n14_ := Aside0.mk (below_step (by repeat (first | (with_reducible first | exact HB.out | apply below_alloc | apply pw_below_drewN | apply below_drew1 | refine below_set ?_ GE295.out | refine below_set ?_ GE303.out | refine below_set ?_ GE304.out) | exact HB.out)) hb)
          clear HO_8
          clear HO_296006
          clear HO_296007
          clear HO_304006
          clear HO_304007
          clear HO_305006
          clear HO_305007
          clear HO320
          clear HO323
          clear BK295
          clear BK303
          clear BK304
          clear HB
          have HO_8 := n0_
          have HO_296006 := n1_
          have HO_296007 := n2_
          have HO_304006 := n3_
          have HO_304007 := n4_
          have HO_305006 := n5_
          have HO_305007 := n6_
          have HO320 := n7_
          have HO323 := n8_
          have HO333 := n9_
          have HO336 := n10_
          have BK295 := n11_
          have BK303 := n12_
          have BK304 := n13_
          have HB := n14_
          clear n0_ n1_ n2_ n3_ n4_ n5_ n6_ n7_ n8_ n9_ n10_ n11_ n12_ n13_ n14_
          (try clear hb)
          (try clear hb2)
          (try clear hk)
          (try clear hi)
          (try clear ho0)
          (try clear ho1)
          obtain ⟨Ao81, co81, eo81⟩ := Kd.R_slice HO333.out
          (first | subst eo81 | (injection eo81 with f1_ f2_ f3_; have f4_ := f1_.symm; have f5_ := f3_.symm; clear f1_ f2_ f3_; subst f4_; subst f5_))
          obtain ⟨Ao83, co83, eo83⟩ := Kd.V_slice HO336.out
          (first | subst eo83 | (injection eo83 with f1_ f2_ f3_; have f4_ := f1_.symm; have f5_ := f3_.symm; clear f1_ f2_ f3_; subst f4_; subst f5_))
          refine hK.out _ _ ⟨(blk_cell BK304.out 0).trans rfl, (blk_cell BK304.out 1).trans rfl, (blk_cell BK304.out 2).trans rfl, (blk_cell BK304.out 3).trans rfl, (blk_cell BK304.out 4).trans rfl, (blk_cell BK304.out 5).trans rfl, (blk_cell BK304.out 6).trans rfl, (blk_cell BK304.out 7).trans rfl, HS8_⟩ (fun hHeld => ?_)
          clear hK K
          refine norm_ (a' := ?_) ?_ ?_
          rotate_left
          ·show Act.put _ (some 63) _ = _
           simp only [Act.put, List.setIfInBounds_toArray, List.set_cons_zero, List.set_cons_succ, i64_w, i32_w]
           rfl
          refine last_ (i := 7) (N := none) #[true, true, true, true, true, true, true, true] rfl rfl (one_of HT_.out (by kernel_rfl)) (by decide) (fun K hK => ?_)
          have hs75 : w74.cell? ⟨gb304, 0, none⟩ = some (.string x305000_2) := (blk_cell BK304.out 0).trans rfl
          have hfs75 := blk_frozen BK304.out 0
          have hns75_0 := NB295_304.out
          have hns75_1 := NB303_304.out
          have hms75_0 := NB304_295.out
          have hms75_1 := NB304_303.out
          have hs76 : w74.cell? ⟨gb304, 1, none⟩ = some (.int .i64 x305001_2) := (blk_cell BK304.out 1).trans rfl
          have hfs76 := blk_frozen BK304.out 1
          have hns76_0 := NB295_304.out
          have hns76_1 := NB303_304.out
          have hms76_0 := NB304_295.out
          have hms76_1 := NB304_303.out
          have hs77 : w74.cell? ⟨gb304, 2, none⟩ = some (.int .i64 x305002_2) := (blk_cell BK304.out 2).trans rfl
          have hfs77 := blk_frozen BK304.out 2
          have hns77_0 := NB295_304.out
          have hns77_1 := NB303_304.out
          have hms77_0 := NB304_295.out
          have hms77_1 := NB304_303.out
          have hs78 : w74.cell? ⟨gb304, 3, none⟩ = some (.int .i64 x305003_2) := (blk_cell BK304.out 3).trans rfl
          have hfs78 := blk_frozen BK304.out 3
          have hns78_0 := NB295_304.out
          have hns78_1 := NB303_304.out
          have hms78_0 := NB304_295.out
          have hms78_1 := NB304_303.out
          have hs79 : w74.cell? ⟨gb304, 4, none⟩ = some (.int .i64 x305004_2) := (blk_cell BK304.out 4).trans rfl
          have hfs79 := blk_frozen BK304.out 4
          have hns79_0 := NB295_304.out
          have hns79_1 := NB303_304.out
          have hms79_0 := NB304_295.out
          have hms79_1 := NB304_303.out
          have hs80 : w74.cell? ⟨gb304, 5, none⟩ = some (.int .i64 x305005_2) := (blk_cell BK304.out 5).trans rfl
          have hfs80 := blk_frozen BK304.out 5
          have hns80_0 := NB295_304.out
          have hns80_1 := NB303_304.out
          have hms80_0 := NB304_295.out
          have hms80_1 := NB304_303.out
          have hs82 : w74.cell? ⟨gb304, 6, none⟩ = some (.slice Ao72 x305006_2.length co72) := (blk_cell BK304.out 6).trans rfl
          have hfs82 := blk_frozen BK304.out 6
          have hns82_0 := NB295_304.out
          have hns82_1 := NB303_304.out
          have hms82_0 := NB304_295.out
          have hms82_1 := NB304_303.out
          have hs84 : w74.cell? ⟨gb304, 7, none⟩ = some (.slice Ao73 x305007_2.length co73) := (blk_cell BK304.out 7).trans rfl
          have hfs84 := blk_frozen BK304.out 7
          have hns84_0 := NB295_304.out
          have hns84_1 := NB303_304.out
          have hms84_0 := NB304_295.out
          have hms84_1 := NB304_303.out
          refine skip_ (w1 := ?_) (by rfl) rfl ?_ ?_
          rotate_left
          ·go_simp
           rfl
          refine hK.out _ _ ?_
          clear hK K
          refine done_ (done_of HT_.out (by kernel_rfl)) ?_
          try go_wp2
          go_roundg k2
          case measure => have := HJ3.out; have := HK2.out; omega
          case rel => exact ⟨(wrap64 (x12_2 + 1)), (t312), (t313), (t314), (t315), (t316), (t317), (t318), (t321), (t325), (t326), (t327), (t328), (t329), (t330), (t331), (t334), (.slice Ao66 t318.length co66), (.slice Ao68 t321.length co68), (.slice Ao81 t331.length co81), (.slice Ao83 t334.length co83), (by first | rfl | (simp; done) | (simp [*]; done)), H', ⟨by have := HJ3.out; have := HK2.out; omega⟩, ⟨by (with_reducible repeat (first | apply Kd.R_alloc | apply Kd.R_drewN | apply Kd.R_drew)); exact Kd.R_mono (Kd.R_far (p := ⟨gb304, 7, none⟩) (Kd.R_far (p := ⟨gb304, 6, none⟩) (Kd.R_far (p := ⟨gb304, 5, none⟩) (Kd.R_far (p := ⟨gb304, 4, none⟩) (Kd.R_far (p := ⟨gb304, 3, none⟩) (Kd.R_far (p := ⟨gb304, 2, none⟩) (Kd.R_far (p := ⟨gb304, 1, none⟩) (Kd.R_far (p := ⟨gb304, 0, none⟩) (Kd.R_types HO_8.out BK304.out (by decide)) (fun _ hk => hk.2) (.string t325)) (fun _ hk => hk.2) (.int .i64 t326)) (fun _ hk => hk.2) (.int .i64 t327)) (fun _ hk => hk.2) (.int .i64 t328)) (fun _ hk => hk.2) (.int .i64 t329)) (fun _ hk => hk.2) (.int .i64 t330)) (fun _ hk => hk.2) (.slice Ao81 t331.length co81)) (fun _ hk => hk.2) (.slice Ao83 t334.length co83)) (fun _ hk => hk.1)⟩, ⟨by (with_reducible repeat (first | apply Kd.V_alloc | apply Kd.V_drewN | apply Kd.V_drew)); exact Kd.V_mono (Kd.V_far (p := ⟨gb304, 7, none⟩) (Kd.V_far (p := ⟨gb304, 6, none⟩) (Kd.V_far (p := ⟨gb304, 5, none⟩) (Kd.V_far (p := ⟨gb304, 4, none⟩) (Kd.V_far (p := ⟨gb304, 3, none⟩) (Kd.V_far (p := ⟨gb304, 2, none⟩) (Kd.V_far (p := ⟨gb304, 1, none⟩) (Kd.V_far (p := ⟨gb304, 0, none⟩) (Kd.V_mono HO_296006.out (fun k_ hk => (⟨hk, hk.1.2.2.2.2.2⟩ : _ ∧ k_ ≠ gb304))) (fun _ hk => hk.2) (.string t325)) (fun _ hk => hk.2) (.int .i64 t326)) (fun _ hk => hk.2) (.int .i64 t327)) (fun _ hk => hk.2) (.int .i64 t328)) (fun _ hk => hk.2) (.int .i64 t329)) (fun _ hk => hk.2) (.int .i64 t330)) (fun _ hk => hk.2) (.slice Ao81 t331.length co81)) (fun _ hk => hk.2) (.slice Ao83 t334.length co83)) (fun _ hk => (And.intro hk.1.1.1 (And.intro hk.1.1.2.1 (And.intro hk.1.1.2.2.2.1 (And.intro hk.1.1.2.2.2.2.1 hk.1.1.2.2.2.2.2)))))⟩, ⟨by (with_reducible repeat (first | apply Kd.V_alloc | apply Kd.V_drewN | apply Kd.V_drew)); exact Kd.V_mono (Kd.V_far (p := ⟨gb304, 7, none⟩) (Kd.V_far (p := ⟨gb304, 6, none⟩) (Kd.V_far (p := ⟨gb304, 5, none⟩) (Kd.V_far (p := ⟨gb304, 4, none⟩) (Kd.V_far (p := ⟨gb304, 3, none⟩) (Kd.V_far (p := ⟨gb304, 2, none⟩) (Kd.V_far (p := ⟨gb304, 1, none⟩) (Kd.V_far (p := ⟨gb304, 0, none⟩) (Kd.V_mono HO_296007.out (fun k_ hk => (⟨hk, hk.1.2.2.2.2.2⟩ : _ ∧ k_ ≠ gb304))) (fun _ hk => hk.2) (.string t325)) (fun _ hk => hk.2) (.int .i64 t326)) (fun _ hk => hk.2) (.int .i64 t327)) (fun _ hk => hk.2) (.int .i64 t328)) (fun _ hk => hk.2) (.int .i64 t329)) (fun _ hk => hk.2) (.int .i64 t330)) (fun _ hk => hk.2) (.slice Ao81 t331.length co81)) (fun _ hk => hk.2) (.slice Ao83 t334.length co83)) (fun _ hk => (And.intro hk.1.1.1 (And.intro hk.1.1.2.1 (And.intro hk.1.1.2.2.2.1 (And.intro hk.1.1.2.2.2.2.1 hk.1.1.2.2.2.2.2)))))⟩, ⟨Kd.V_mono (Kd.R_V (by (with_reducible repeat (first | apply Kd.R_alloc | apply Kd.R_drewN | apply Kd.R_drew)); exact Kd.R_mono (Kd.R_far (p := ⟨gb304, 7, none⟩) (Kd.R_far (p := ⟨gb304, 6, none⟩) (Kd.R_far (p := ⟨gb304, 5, none⟩) (Kd.R_far (p := ⟨gb304, 4, none⟩) (Kd.R_far (p := ⟨gb304, 3, none⟩) (Kd.R_far (p := ⟨gb304, 2, none⟩) (Kd.R_far (p := ⟨gb304, 1, none⟩) (Kd.R_far (p := ⟨gb304, 0, none⟩) (Kd.R_types (Kd.R_types (Kd.R_types (Kd.R_types (Kd.R_apart' HO320.out (Kd.R_typed HO_8.out) (by decide)) BK295.out (by decide)) BK303.out (by decide)) BK304.out (by decide)) BK304.out (by decide)) (fun _ hk => hk.2) (.string t325)) (fun _ hk => hk.2) (.int .i64 t326)) (fun _ hk => hk.2) (.int .i64 t327)) (fun _ hk => hk.2) (.int .i64 t328)) (fun _ hk => hk.2) (.int .i64 t329)) (fun _ hk => hk.2) (.int .i64 t330)) (fun _ hk => hk.2) (.slice Ao81 t331.length co81)) (fun _ hk => hk.2) (.slice Ao83 t334.length co83)) (fun _ hk => (And.intro hk.1.1.1.1.1.1 (And.intro hk.1.1.1.1.2 (And.intro hk.1.1.1.2 (And.intro hk.1.1.2 hk.1.2))))))) (fun k_ hk => by first | exact ⟨(.inr (hk.1)), hk.2⟩ | exact (.inr (hk)))⟩, ⟨by (with_reducible repeat (first | apply Kd.V_alloc | apply Kd.V_drewN | apply Kd.V_drew)); exact Kd.V_mono (Kd.V_far (p := ⟨gb304, 7, none⟩) (Kd.V_far (p := ⟨gb304, 6, none⟩) (Kd.V_far (p := ⟨gb304, 5, none⟩) (Kd.V_far (p := ⟨gb304, 4, none⟩) (Kd.V_far (p := ⟨gb304, 3, none⟩) (Kd.V_far (p := ⟨gb304, 2, none⟩) (Kd.V_far (p := ⟨gb304, 1, none⟩) (Kd.V_far (p := ⟨gb304, 0, none⟩) (Kd.V_mono HO323.out (fun k_ hk => (⟨hk, hk.1.2.2.2.2.2⟩ : _ ∧ k_ ≠ gb304))) (fun _ hk => hk.2) (.string t325)) (fun _ hk => hk.2) (.int .i64 t326)) (fun _ hk => hk.2) (.int .i64 t327)) (fun _ hk => hk.2) (.int .i64 t328)) (fun _ hk => hk.2) (.int .i64 t329)) (fun _ hk => hk.2) (.int .i64 t330)) (fun _ hk => hk.2) (.slice Ao81 t331.length co81)) (fun _ hk => hk.2) (.slice Ao83 t334.length co83)) (fun _ hk => (And.intro hk.1.1.1 (And.intro hk.1.1.2.1 (And.intro hk.1.1.2.2.2.1 (And.intro hk.1.1.2.2.2.2.1 hk.1.1.2.2.2.2.2)))))⟩, ⟨Kd.V_mono (Kd.R_V (by (with_reducible repeat (first | apply Kd.R_alloc | apply Kd.R_drewN | apply Kd.R_drew)); exact Kd.R_mono (Kd.R_far (p := ⟨gb304, 7, none⟩) (Kd.R_far (p := ⟨gb304, 6, none⟩) (Kd.R_far (p := ⟨gb304, 5, none⟩) (Kd.R_far (p := ⟨gb304, 4, none⟩) (Kd.R_far (p := ⟨gb304, 3, none⟩) (Kd.R_far (p := ⟨gb304, 2, none⟩) (Kd.R_far (p := ⟨gb304, 1, none⟩) (Kd.R_far (p := ⟨gb304, 0, none⟩) (Kd.R_types (Kd.R_types (Kd.R_types (Kd.R_types (Kd.R_apart' HO333.out (Kd.R_typed HO_8.out) (by decide)) BK295.out (by decide)) BK303.out (by decide)) BK304.out (by decide)) BK304.out (by decide)) (fun _ hk => hk.2) (.string t325)) (fun _ hk => hk.2) (.int .i64 t326)) (fun _ hk => hk.2) (.int .i64 t327)) (fun _ hk => hk.2) (.int .i64 t328)) (fun _ hk => hk.2) (.int .i64 t329)) (fun _ hk => hk.2) (.int .i64 t330)) (fun _ hk => hk.2) (.slice Ao81 t331.length co81)) (fun _ hk => hk.2) (.slice Ao83 t334.length co83)) (fun _ hk => (And.intro hk.1.1.1.1.1.1.1 (And.intro hk.1.1.1.1.2 (And.intro hk.1.1.1.2 (And.intro hk.1.1.2 hk.1.2))))))) (fun k_ hk => by first | exact ⟨(.inr (hk.1)), hk.2⟩ | exact (.inr (hk)))⟩, ⟨by (with_reducible repeat (first | apply Kd.V_alloc | apply Kd.V_drewN | apply Kd.V_drew)); exact Kd.V_mono (Kd.V_far (p := ⟨gb304, 7, none⟩) (Kd.V_far (p := ⟨gb304, 6, none⟩) (Kd.V_far (p := ⟨gb304, 5, none⟩) (Kd.V_far (p := ⟨gb304, 4, none⟩) (Kd.V_far (p := ⟨gb304, 3, none⟩) (Kd.V_far (p := ⟨gb304, 2, none⟩) (Kd.V_far (p := ⟨gb304, 1, none⟩) (Kd.V_far (p := ⟨gb304, 0, none⟩) (Kd.V_mono HO336.out (fun k_ hk => (⟨hk, hk.2.2.2.2.2.2⟩ : _ ∧ k_ ≠ gb304))) (fun _ hk => hk.2) (.string t325)) (fun _ hk => hk.2) (.int .i64 t326)) (fun _ hk => hk.2) (.int .i64 t327)) (fun _ hk => hk.2) (.int .i64 t328)) (fun _ hk => hk.2) (.int .i64 t329)) (fun _ hk => hk.2) (.int .i64 t330)) (fun _ hk => hk.2) (.slice Ao81 t331.length co81)) (fun _ hk => hk.2) (.slice Ao83 t334.length co83)) (fun _ hk => (And.intro hk.1.1 (And.intro hk.1.2.2.1 (And.intro hk.1.2.2.2.2.1 (And.intro hk.1.2.2.2.2.2.1 hk.1.2.2.2.2.2.2)))))⟩, ⟨by (with_reducible repeat (first | refine blk_drewN ?_ _ | refine blk_drew ?_ | refine blk_alloc ?_ _)); refine blk_far ?_ NB295_304.out _; (with_reducible repeat (first | refine blk_drewN ?_ _ | refine blk_drew ?_ | refine blk_alloc ?_ _)); refine blk_far ?_ NB295_304.out _; (with_reducible repeat (first | refine blk_drewN ?_ _ | refine blk_drew ?_ | refine blk_alloc ?_ _)); refine blk_far ?_ NB295_304.out _; (with_reducible repeat (first | refine blk_drewN ?_ _ | refine blk_drew ?_ | refine blk_alloc ?_ _)); refine blk_far ?_ NB295_304.out _; (with_reducible repeat (first | refine blk_drewN ?_ _ | refine blk_drew ?_ | refine blk_alloc ?_ _)); refine blk_far ?_ NB295_304.out _; (with_reducible repeat (first | refine blk_drewN ?_ _ | refine blk_drew ?_ | refine blk_alloc ?_ _)); refine blk_far ?_ NB295_304.out _; (with_reducible repeat (first | refine blk_drewN ?_ _ | refine blk_drew ?_ | refine blk_alloc ?_ _)); refine blk_far ?_ NB295_304.out _; (with_reducible repeat (first | refine blk_drewN ?_ _ | refine blk_drew ?_ | refine blk_alloc ?_ _)); refine blk_far ?_ NB295_304.out _; (with_reducible repeat (first | refine blk_drewN ?_ _ | refine blk_drew ?_ | refine blk_alloc ?_ _)); exact BK295.out⟩, ⟨by (with_reducible repeat (first | refine blk_drewN ?_ _ | refine blk_drew ?_ | refine blk_alloc ?_ _)); refine blk_far ?_ NB303_304.out _; (with_reducible repeat (first | refine blk_drewN ?_ _ | refine blk_drew ?_ | refine blk_alloc ?_ _)); refine blk_far ?_ NB303_304.out _; (with_reducible repeat (first | refine blk_drewN ?_ _ | refine blk_drew ?_ | refine blk_alloc ?_ _)); refine blk_far ?_ NB303_304.out _; (with_reducible repeat (first | refine blk_drewN ?_ _ | refine blk_drew ?_ | refine blk_alloc ?_ _)); refine blk_far ?_ NB303_304.out _; (with_reducible repeat (first | refine blk_drewN ?_ _ | refine blk_drew ?_ | refine blk_alloc ?_ _)); refine blk_far ?_ NB303_304.out _; (with_reducible repeat (first | refine blk_drewN ?_ _ | refine blk_drew ?_ | refine blk_alloc ?_ _)); refine blk_far ?_ NB303_304.out _; (with_reducible repeat (first | refine blk_drewN ?_ _ | refine blk_drew ?_ | refine blk_alloc ?_ _)); refine blk_far ?_ NB303_304.out _; (with_reducible repeat (first | refine blk_drewN ?_ _ | refine blk_drew ?_ | refine blk_alloc ?_ _)); refine blk_far ?_ NB303_304.out _; (with_reducible repeat (first | refine blk_drewN ?_ _ | refine blk_drew ?_ | refine blk_alloc ?_ _)); exact BK303.out⟩, ⟨by (with_reducible repeat (first | refine blk_drewN ?_ _ | refine blk_drew ?_ | refine blk_alloc ?_ _)); refine blk_put (cs := #[.string t325, .int .i64 t326, .int .i64 t327, .int .i64 t328, .int .i64 t329, .int .i64 t330, .slice Ao81 t331.length co81, .slice Ao73 x305007_2.length co73]) ?_ 7 _ rfl; (with_reducible repeat (first | refine blk_drewN ?_ _ | refine blk_drew ?_ | refine blk_alloc ?_ _)); refine blk_put (cs := #[.string t325, .int .i64 t326, .int .i64 t327, .int .i64 t328, .int .i64 t329, .int .i64 t330, .slice Ao72 x305006_2.length co72, .slice Ao73 x305007_2.length co73]) ?_ 6 _ rfl; (with_reducible repeat (first | refine blk_drewN ?_ _ | refine blk_drew ?_ | refine blk_alloc ?_ _)); refine blk_put (cs := #[.string t325, .int .i64 t326, .int .i64 t327, .int .i64 t328, .int .i64 t329, .int .i64 x305005_2, .slice Ao72 x305006_2.length co72, .slice Ao73 x305007_2.length co73]) ?_ 5 _ rfl; (with_reducible repeat (first | refine blk_drewN ?_ _ | refine blk_drew ?_ | refine blk_alloc ?_ _)); refine blk_put (cs := #[.string t325, .int .i64 t326, .int .i64 t327, .int .i64 t328, .int .i64 x305004_2, .int .i64 x305005_2, .slice Ao72 x305006_2.length co72, .slice Ao73 x305007_2.length co73]) ?_ 4 _ rfl; (with_reducible repeat (first | refine blk_drewN ?_ _ | refine blk_drew ?_ | refine blk_alloc ?_ _)); refine blk_put (cs := #[.string t325, .int .i64 t326, .int .i64 t327, .int .i64 x305003_2, .int .i64 x305004_2, .int .i64 x305005_2, .slice Ao72 x305006_2.length co72, .slice Ao73 x305007_2.length co73]) ?_ 3 _ rfl; (with_reducible repeat (first | refine blk_drewN ?_ _ | refine blk_drew ?_ | refine blk_alloc ?_ _)); refine blk_put (cs := #[.string t325, .int .i64 t326, .int .i64 x305002_2, .int .i64 x305003_2, .int .i64 x305004_2, .int .i64 x305005_2, .slice Ao72 x305006_2.length co72, .slice Ao73 x305007_2.length co73]) ?_ 2 _ rfl; (with_reducible repeat (first | refine blk_drewN ?_ _ | refine blk_drew ?_ | refine blk_alloc ?_ _)); refine blk_put (cs := #[.string t325, .int .i64 x305001_2, .int .i64 x305002_2, .int .i64 x305003_2, .int .i64 x305004_2, .int .i64 x305005_2, .slice Ao72 x305006_2.length co72, .slice Ao73 x305007_2.length co73]) ?_ 1 _ rfl; (with_reducible repeat (first | refine blk_drewN ?_ _ | refine blk_drew ?_ | refine blk_alloc ?_ _)); refine blk_put (cs := #[.string x305000_2, .int .i64 x305001_2, .int .i64 x305002_2, .int .i64 x305003_2, .int .i64 x305004_2, .int .i64 x305005_2, .slice Ao72 x305006_2.length co72, .slice Ao73 x305007_2.length co73]) ?_ 0 _ rfl; (with_reducible repeat (first | refine blk_drewN ?_ _ | refine blk_drew ?_ | refine blk_alloc ?_ _)); exact BK304.out⟩, ⟨by repeat (first | (with_reducible first | exact HB.out | apply below_alloc | apply pw_below_drewN | apply below_drew1 | refine below_set ?_ GE295.out | refine below_set ?_ GE303.out | refine below_set ?_ GE304.out) | exact HB.out)⟩⟩
        ·rw [if_neg c38] at H
         exact absurd H (by simp)
       ·rw [if_neg c37] at H
        have c37b0 : decide (x12_2 < (t299.length : Int)) = false := decide_eq_false c37
        clear c37
        replace H := Option.bind_eq_some_iff.mp H
        obtain ⟨t305, A850, H⟩ := H
        replace H : ((express_Can.f (wrap64 (1 + (Int.tmod (wrap64 (a0)) 3))) x304000_2 x304001_2 x304002_2 x304003_2 x304004_2 x304005_2 x304006_2 x304007_2).bind fun t308 => (if t308 = true then (if (t305.length : Int) = 1 then (if 0 < (t305.length : Int) then (if 0 ≤ (Int.tmod (wrap64 (a2)) (t299.length : Int)) then (if (Int.tmod (wrap64 (a2)) (t299.length : Int)) < (t299.length : Int) then (some ((rd t305 0) == (rd t299 (Int.tmod (wrap64 (a2)) (t299.length : Int))))) else (none)) else (none)) else (none)) else (some false)) else (some false))) = some r := H
        have A85 := Aside0.mk A850
        clear A850
        replace H := Option.bind_eq_some_iff.mp H
        obtain ⟨t308, A860, H⟩ := H
        replace H : (if t308 = true then (if (t305.length : Int) = 1 then (if 0 < (t305.length : Int) then (if 0 ≤ (Int.tmod (wrap64 (a2)) (t299.length : Int)) then (if (Int.tmod (wrap64 (a2)) (t299.length : Int)) < (t299.length : Int) then (some ((rd t305 0) == (rd t299 (Int.tmod (wrap64 (a2)) (t299.length : Int))))) else (none)) else (none)) else (none)) else (some false)) else (some false)) = some r := H
        have A86 := Aside0.mk A860
        clear A860
        by_cases c87 : t308 = true
        ·subst c87
         have H1 : (if (t305.length : Int) = 1 then (if 0 < (t305.length : Int) then (if 0 ≤ (Int.tmod (wrap64 (a2)) (t299.length : Int)) then (if (Int.tmod (wrap64 (a2)) (t299.length : Int)) < (t299.length : Int) then (some ((rd t305 0) == (rd t299 (Int.tmod (wrap64 (a2)) (t299.length : Int))))) else (none)) else (none)) else (none)) else (some false)) = some r := by rw [if_pos rfl] at H; exact H
         clear H
         have H := H1
         clear H1
         by_cases c88 : (t305.length : Int) = 1
         ·rw [if_pos c88] at H
          have c88b0 : ((t305.length : Int) == 1) = true := beq_iff_eq.mpr c88
          have c88b1 : ((t305.length : Int) != 1) = false := bne_eq_false_iff_eq.mpr c88
          clear c88
          by_cases c89 : 0 < (t305.length : Int)
          ·rw [if_pos c89] at H
           have c89b0 : decide (0 < (t305.length : Int)) = true := decide_eq_true c89
           have c89b1 : decide (0 < t305.length) = true := decide_eq_true (by omega)
           clear c89
           obtain ⟨ji90, hji90⟩ : ∃ j_ : Int, (Int.tmod (wrap64 (a2)) (t299.length : Int)) = j_ := ⟨_, rfl⟩
           replace H : (if 0 ≤ (ji90) then (if (ji90) < (t299.length : Int) then (some ((rd t305 0) == (rd t299 (ji90)))) else (none)) else (none)) = some r := by first | (rw [hji90] at H; exact H) | (simp only [hji90] at H ⊢; exact H)
           (try rw [hji90] at A85)
           (try rw [hji90] at A86)
           by_cases c91 : 0 ≤ (ji90)
           ·rw [if_pos c91] at H
            have c91b0 : decide (0 ≤ (ji90)) = true := decide_eq_true c91
            clear c91
            by_cases c92 : (ji90) < (t299.length : Int)
            ·rw [if_pos c92] at H
             have c92b0 : decide ((ji90) < (t299.length : Int)) = true := decide_eq_true c92
             clear c92
             obtain rfl := Option.some.inj H
             have hnb93 := NB304_295.out
             have hnc93 := NB295_304.out
             have hnb94 := NB304_303.out
             have hnc94 := NB303_304.out
             obtain ⟨hcz95_0, hcz95_1, hcz95_2, hcz95_3, hcz95_4, hcz95_5, hcz95_6, hcz95_7, hfz95_0, hfz95_1, hfz95_2, hfz95_3, hfz95_4, hfz95_5, hfz95_6, hfz95_7⟩ := blk8_ BK304.out
             obtain ⟨Ao96, co96, eo96⟩ := Kd.V_slice HO_305006.out
             subst eo96
             obtain ⟨Ao97, co97, eo97⟩ := Kd.V_slice HO_305007.out
             subst eo97
             try go_wp2_with (first | ((with_reducible refine gate_callee (f := 9) rfl ?_); refine goesL_ (some 66) rfl rfl Try.func9 (by kernel_rfl) rfl #[.int .i64 (wrap64 (1 + (Int.tmod (wrap64 (a0)) 3))), .agg #[.string x305000_2, .int .i64 x305001_2, .int .i64 x305002_2, .int .i64 x305003_2, .int .i64 x305004_2, .int .i64 x305005_2, .slice Ao96 x305006_2.length co96, .slice Ao97 x305007_2.length co97]] rfl (by (try simp only [List.map_toArray, List.map_cons, List.map_nil]); first | done | rfl | (simp only [List.length_drop, List.length_take]; rfl)) ?_; (with_reducible refine (express_Lacks.calls (wrap64 (1 + (Int.tmod (wrap64 (a0)) 3))) x305000_2 x305001_2 x305002_2 x305003_2 x305004_2 x305005_2 _ _ x305006_2 _ _ x305007_2 t305 _ ?side1 ?side2 ?side3 ?side4 A85.out).mono ?_); (case side1 => repeat (first | exact (Kd.V_reads' HO_305006.out).2.2 | (with_reducible refine Kd.C_alloc ?_ _) | (with_reducible refine Kd.C_drewN ?_ _) | (with_reducible refine Kd.C_drew ?_))); (case side2 => exact (Kd.V_reads' HO_305006.out).2.1); (case side3 => repeat (first | exact (Kd.V_reads' HO_305007.out).2.2 | (with_reducible refine Kd.C_alloc ?_ _) | (with_reducible refine Kd.C_drewN ?_ _) | (with_reducible refine Kd.C_drew ?_))); (case side4 => exact (Kd.V_reads' HO_305007.out).2.1); rintro e w98 ⟨v306, rfl, ho0, hb⟩; refine ⟨_, rfl, ?_⟩; have n0_ := Aside0.mk (Kd.R_elder' (by (with_reducible repeat (first | apply Kd.R_alloc | apply Kd.R_drewN | apply Kd.R_drew)); exact HO_8.out) (Kd.R_base ho0) hb); have n1_ := Aside0.mk (Kd.V_elder' (by (with_reducible repeat (first | apply Kd.V_alloc | apply Kd.V_drewN | apply Kd.V_drew)); exact HO_296006.out) (Kd.R_base ho0) hb); have n2_ := Aside0.mk (Kd.V_elder' (by (with_reducible repeat (first | apply Kd.V_alloc | apply Kd.V_drewN | apply Kd.V_drew)); exact HO_296007.out) (Kd.R_base ho0) hb); have n3_ := Aside0.mk (Kd.V_elder' (by (with_reducible repeat (first | apply Kd.V_alloc | apply Kd.V_drewN | apply Kd.V_drew)); exact HO_304006.out) (Kd.R_base ho0) hb); have n4_ := Aside0.mk (Kd.V_elder' (by (with_reducible repeat (first | apply Kd.V_alloc | apply Kd.V_drewN | apply Kd.V_drew)); exact HO_304007.out) (Kd.R_base ho0) hb); have n5_ := Aside0.mk (Kd.V_elder' (by (with_reducible repeat (first | apply Kd.V_alloc | apply Kd.V_drewN | apply Kd.V_drew)); exact HO_305006.out) (Kd.R_base ho0) hb); have n6_ := Aside0.mk (Kd.V_elder' (by (with_reducible repeat (first | apply Kd.V_alloc | apply Kd.V_drewN | apply Kd.V_drew)); exact HO_305007.out) (Kd.R_base ho0) hb); have n7_ := Aside0.mk (Kd.R_lower (Kd.R_new' (Kd.R_newM (M := fun k_ => (w.heap.size ≤ k_)) ho0 (below_size (by repeat (first | (with_reducible first | exact HB.out | apply below_alloc | apply pw_below_drewN | apply below_drew1 | refine below_set ?_ GE295.out | refine below_set ?_ GE303.out | refine below_set ?_ GE304.out) | exact HB.out))) (fun k_ h_ => h_)) (Kd.R_lt (by (with_reducible repeat (first | apply Kd.R_alloc | apply Kd.R_drewN | apply Kd.R_drew)); exact HO_8.out))) (below_size (by repeat (first | (with_reducible first | exact HB.out | apply below_alloc | apply pw_below_drewN | apply below_drew1 | refine below_set ?_ GE295.out | refine below_set ?_ GE303.out | refine below_set ?_ GE304.out) | exact HB.out)))); have n8_ := Aside0.mk (blk_below (g := gb295) (o := .cells #[.string a1_0, .int .i64 a1_1, .int .i64 a1_2, .int .i64 a1_3, .int .i64 a1_4, .int .i64 a1_5, .slice A1_6 l1_6.length c1_6, .slice A1_7 l1_7.length c1_7] 25 (0, 0)) (by (with_reducible repeat (first | refine blk_drewN ?_ _ | refine blk_drew ?_ | refine blk_alloc ?_ _)); exact BK295.out) hb); have n9_ := Aside0.mk (blk_below (g := gb303) (o := .cells #[.string x304000_2, .int .i64 x304001_2, .int .i64 x304002_2, .int .i64 x304003_2, .int .i64 x304004_2, .int .i64 x304005_2, u304006, u304007] 25 (0, 0)) (by (with_reducible repeat (first | refine blk_drewN ?_ _ | refine blk_drew ?_ | refine blk_alloc ?_ _)); exact BK303.out) hb); have n10_ := Aside0.mk (blk_below (g := gb304) (o := .cells #[.string x305000_2, .int .i64 x305001_2, .int .i64 x305002_2, .int .i64 x305003_2, .int .i64 x305004_2, .int .i64 x305005_2, .slice Ao96 x305006_2.length co96, .slice Ao97 x305007_2.length co97] 25 (0, 0)) (by (with_reducible repeat (first | refine blk_drewN ?_ _ | refine blk_drew ?_ | refine blk_alloc ?_ _)); exact BK304.out) hb); have n11_ := Aside0.mk (below_step (by repeat (first | (with_reducible first | exact HB.out | apply below_alloc | apply pw_below_drewN | apply below_drew1 | refine below_set ?_ GE295.out | refine below_set ?_ GE303.out | refine below_set ?_ GE304.out) | exact HB.out)) hb); clear HO_8; clear HO_296006; clear HO_296007; clear HO_304006; clear HO_304007; clear HO_305006; clear HO_305007; clear BK295; clear BK303; clear BK304; clear HB; have HO_8 := n0_; have HO_296006 := n1_; have HO_296007 := n2_; have HO_304006 := n3_; have HO_304007 := n4_; have HO_305006 := n5_; have HO_305007 := n6_; have HO307 := n7_; have BK295 := n8_; have BK303 := n9_; have BK304 := n10_; have HB := n11_; clear n0_ n1_ n2_ n3_ n4_ n5_ n6_ n7_ n8_ n9_ n10_ n11_; (try clear hb); (try clear hb2); (try clear hk); (try clear hi); (try clear ho0)))
             have n0_ := Aside0.mk (Kd.R_drew HO_8.out)
             have n1_ := Aside0.mk (Kd.V_drew HO_296006.out)
             have n2_ := Aside0.mk (Kd.V_drew HO_296007.out)
             have n3_ := Aside0.mk (Kd.V_drew HO_304006.out)
             have n4_ := Aside0.mk (Kd.V_drew HO_304007.out)
             have n5_ := Aside0.mk (Kd.V_drew HO_305006.out)
             have n6_ := Aside0.mk (Kd.V_drew HO_305007.out)
             have n7_ := Aside0.mk (Kd.R_drew HO307.out)
             have n8_ := Aside0.mk (blk_drew BK295.out)
             have n9_ := Aside0.mk (blk_drew BK303.out)
             have n10_ := Aside0.mk (blk_drew BK304.out)
             have n11_ := Aside0.mk (below_drew1 HB.out)
             clear HO_8
             clear HO_296006
             clear HO_296007
             clear HO_304006
             clear HO_304007
             clear HO_305006
             clear HO_305007
             clear HO307
             clear BK295
             clear BK303
             clear BK304
             clear HB
             have HO_8 := n0_
             have HO_296006 := n1_
             have HO_296007 := n2_
             have HO_304006 := n3_
             have HO_304007 := n4_
             have HO_305006 := n5_
             have HO_305007 := n6_
             have HO307 := n7_
             have BK295 := n8_
             have BK303 := n9_
             have BK304 := n10_
             have HB := n11_
             clear n0_ n1_ n2_ n3_ n4_ n5_ n6_ n7_ n8_ n9_ n10_ n11_
             obtain ⟨Ao100, co100, eo100⟩ := Kd.V_slice HO_304006.out
             (first | subst eo100 | (injection eo100 with f1_ f2_ f3_; have f4_ := f1_.symm; have f5_ := f3_.symm; clear f1_ f2_ f3_; subst f4_; subst f5_))
             obtain ⟨Ao101, co101, eo101⟩ := Kd.V_slice HO_304007.out
             (first | subst eo101 | (injection eo101 with f1_ f2_ f3_; have f4_ := f1_.symm; have f5_ := f3_.symm; clear f1_ f2_ f3_; subst f4_; subst f5_))
             obtain ⟨Az309, cz309, ez309⟩ := Kd.R_slice HO307.out
             subst ez309
             have p309 : 0 ≤ (0 : Int) := (by omega)
             have q309 : 0 < (t305.length : Int) := of_decide_eq_true (by first | (with_reducible assumption) | assumption)
             obtain ⟨ad309, e309, hx309_0⟩ := Kd.at_int (Kd.R_reads' HO307.out).2.2 0 p309 q309
             cases e309
             have qi309 : (0 < t305.length) = True := eq_true (by omega)
             (try rw [show ((0 : Int)).toNat = 0 from rfl] at hx309_0)
             (try rw [Addr.add_zero'] at hx309_0)
             replace p309 := eq_true p309
             replace q309 := eq_true q309
             have p310 : 0 ≤ ((ji90) : Int) := of_decide_eq_true (by first | (with_reducible assumption) | assumption)
             have q310 : (ji90) < (t299.length : Int) := of_decide_eq_true (by first | (with_reducible assumption) | assumption)
             obtain ⟨ad310, e310, hx310_0⟩ := Kd.at_int (Kd.R_reads' HO_8.out).2.2 (ji90) p310 q310
             cases e310
             replace p310 := eq_true p310
             replace q310 := eq_true q310
             refine start_ (n := 19) (S := fun w' => w'.cell? ⟨gb303, 0, none⟩ = some (.string x304000_2) ∧ w'.cell? ⟨gb303, 1, none⟩ = some (.int .i64 x304001_2) ∧ w'.cell? ⟨gb303, 2, none⟩ = some (.int .i64 x304002_2) ∧ w'.cell? ⟨gb303, 3, none⟩ = some (.int .i64 x304003_2) ∧ w'.cell? ⟨gb303, 4, none⟩ = some (.int .i64 x304004_2) ∧ w'.cell? ⟨gb303, 5, none⟩ = some (.int .i64 x304005_2) ∧ w'.cell? ⟨gb303, 6, none⟩ = some (.slice Ao100 x304006_2.length co100) ∧ w'.cell? ⟨gb303, 7, none⟩ = some (.slice Ao101 x304007_2.length co101) ∧ w'.cell? ad309 = some (.int .i64 (rd t305 0)) ∧ w'.cell? (ad310.add ((ji90)).toNat) = some (.int .i64 (rd t299 (ji90)))) (ds := []) #[false, false, false, false, false, false, false, false, false, false, false, false, false, false, false, false, false, false, false] (by kernel_rfl) rfl rfl ⟨(blk_cell BK303.out 0).trans rfl, (blk_cell BK303.out 1).trans rfl, (blk_cell BK303.out 2).trans rfl, (blk_cell BK303.out 3).trans rfl, (blk_cell BK303.out 4).trans rfl, (blk_cell BK303.out 5).trans rfl, (blk_cell BK303.out 6).trans rfl, (blk_cell BK303.out 7).trans rfl, hx309_0, hx310_0⟩ (fun hHeld => ?_); refine with_tabW entrepotlaw12_ExpressTurned.tab17 entrepotlaw12_ExpressTurned.bits17 (fun HT_ HW_ => ?_)
             generalize w98.drew = w99 at HO_8 HO_296006 HO_296007 HO_304006 HO_304007 HO_305006 HO_305007 HO307 BK295 BK303 BK304 HB hx309_0 hx310_0 hHeld ⊢
             refine pure_ (i := 0) (N := some 67) (v := ?_) (a' := ?_) #[true, false, false, false, false, false, false, false, false, false, false, false, false, false, false, false, false, false, false] rfl rfl (any_of HT_.out (by kernel_rfl)) (fun _ _ _ h => h) (Or.inl ⟨by rfl, ?_⟩) ?_ ?_
             rotate_left
             ·intro w'
              go_simp
              with_reducible rfl
             rotate_left
             ·simp only [Act.put, List.setIfInBounds_toArray, List.set_cons_zero, List.set_cons_succ, i64_w, i32_w]
              rfl
             refine take_ (i := 1) (N := some 68) (v := ?_) (a' := ?_) #[true, true, false, false, false, false, false, false, false, false, false, false, false, false, false, false, false, false, false] rfl rfl (take_ofW HT_.out HW_.out (by kernel_rfl)) (fun _ _ _ h => h) (Or.inl ⟨by rfl, ?_⟩) hHeld ?_ ?_
             rotate_left
             ·rintro w' ⟨s0, s1, s2, s3, s4, s5, s6, s7, s8, s9⟩
              go_simp
              with_reducible rfl
             rotate_left
             ·simp only [Act.put, List.setIfInBounds_toArray, List.set_cons_zero, List.set_cons_succ, i64_w, i32_w]
              rfl
             refine one_ (i := 2) (N := some 69) #[true, true, true, false, false, false, false, false, false, false, false, false, false, false, false, false, false, false, false] rfl rfl (one_of HT_.out (by kernel_rfl)) (by decide) (fun K hK => ?_)
             refine goes_ Try.func13 (by kernel_rfl) rfl #[.int .i64 (wrap64 (1 + (Int.tmod (wrap64 (a0)) 3))), .agg #[.string x304000_2, .int .i64 x304001_2, .int .i64 x304002_2, .int .i64 x304003_2, .int .i64 x304004_2, .int .i64 x304005_2, .slice Ao100 x304006_2.length co100, .slice Ao101 x304007_2.length co101]] (by rfl) rfl rfl (by (try simp only [List.map_toArray, List.map_cons, List.map_nil]); first | done | rfl | (simp only [List.length_drop, List.length_take]; rfl)) ?_
             with_reducible refine (express_Can.calls (wrap64 (1 + (Int.tmod (wrap64 (a0)) 3))) x304000_2 x304001_2 x304002_2 x304003_2 x304004_2 x304005_2 _ _ x304006_2 _ _ x304007_2 true _ ?side1 ?side2 ?side3 ?side4 A86.out).mono ?_
             (case side1 => repeat (first | exact (Kd.V_reads' HO_304006.out).2.2 | (with_reducible refine Kd.C_alloc ?_ _) | (with_reducible refine Kd.C_drewN ?_ _) | (with_reducible refine Kd.C_drew ?_)))
             (case side2 => exact (Kd.V_reads' HO_304006.out).2.1)
             (case side3 => repeat (first | exact (Kd.V_reads' HO_304007.out).2.2 | (with_reducible refine Kd.C_alloc ?_ _) | (with_reducible refine Kd.C_drewN ?_ _) | (with_reducible refine Kd.C_drew ?_)))
             (case side4 => exact (Kd.V_reads' HO_304007.out).2.1)
             rintro e w102 ⟨rfl, hb⟩
             have HS8_ := (hb.cell (World.block_lt_of_cell? _ _ (hHeld.2.2.2.2.2.2.2.2.1))).trans (hHeld.2.2.2.2.2.2.2.2.1)
             have HS9_ := (hb.cell (World.block_lt_of_cell? _ _ (hHeld.2.2.2.2.2.2.2.2.2))).trans (hHeld.2.2.2.2.2.2.2.2.2)
             refine ⟨_, rfl, ?_⟩
             have n0_ := Aside0.mk (Kd.R_below (by (with_reducible repeat (first | apply Kd.R_alloc | apply Kd.R_drewN | apply Kd.R_drew)); exact HO_8.out) hb)
             have n1_ := Aside0.mk (Kd.V_below (by (with_reducible repeat (first | apply Kd.V_alloc | apply Kd.V_drewN | apply Kd.V_drew)); exact HO_296006.out) hb)
             have n2_ := Aside0.mk (Kd.V_below (by (with_reducible repeat (first | apply Kd.V_alloc | apply Kd.V_drewN | apply Kd.V_drew)); exact HO_296007.out) hb)
             have n3_ := Aside0.mk (Kd.V_below (by (with_reducible repeat (first | apply Kd.V_alloc | apply Kd.V_drewN | apply Kd.V_drew)); exact HO_304006.out) hb)
             have n4_ := Aside0.mk (Kd.V_below (by (with_reducible repeat (first | apply Kd.V_alloc | apply Kd.V_drewN | apply Kd.V_drew)); exact HO_304007.out) hb)
             have n5_ := Aside0.mk (Kd.V_below (by (with_reducible repeat (first | apply Kd.V_alloc | apply Kd.V_drewN | apply Kd.V_drew)); exact HO_305006.out) hb)
             have n6_ := Aside0.mk (Kd.V_below (by (with_reducible repeat (first | apply Kd.V_alloc | apply Kd.V_drewN | apply Kd.V_drew)); exact HO_305007.out) hb)
             have n7_ := Aside0.mk (Kd.R_below (by (with_reducible repeat (first | apply Kd.R_alloc | apply Kd.R_drewN | apply Kd.R_drew)); exact HO307.out) hb)
             have n8_ := Aside0.mk (blk_below (g := gb295) (o := .cells #[.string a1_0, .int .i64 a1_1, .int .i64 a1_2, .int .i64 a1_3, .int .i64 a1_4, .int .i64 a1_5, .slice A1_6 l1_6.length c1_6, .slice A1_7 l1_7.length c1_7] 25 (0, 0)) (by (with_reducible repeat (first | refine blk_drewN ?_ _ | refine blk_drew ?_ | refine blk_alloc ?_ _)); exact BK295.out) hb)
             have n9_ := Aside0.mk (blk_below (g := gb303) (o := .cells #[.string x304000_2, .int .i64 x304001_2, .int .i64 x304002_2, .int .i64 x304003_2, .int .i64 x304004_2, .int .i64 x304005_2, .slice Ao100 x304006_2.length co100, .slice Ao101 x304007_2.length co101] 25 (0, 0)) (by (with_reducible repeat (first | refine blk_drewN ?_ _ | refine blk_drew ?_ | refine blk_alloc ?_ _)); exact BK303.out) hb)
             have n10_ := Aside0.mk (blk_below (g := gb304) (o := .cells #[.string x305000_2, .int .i64 x305001_2, .int .i64 x305002_2, .int .i64 x305003_2, .int .i64 x305004_2, .int .i64 x305005_2, .slice Ao96 x305006_2.length co96, .slice Ao97 x305007_2.length co97] 25 (0, 0)) (by (with_reducible repeat (first | refine blk_drewN ?_ _ | refine blk_drew ?_ | refine blk_alloc ?_ _)); exact BK304.out) hb)
             have n11_ := Aside0.mk (below_step (by repeat (first | (with_reducible first | exact HB.out | apply below_alloc | apply pw_below_drewN | apply below_drew1 | refine below_set ?_ GE295.out | refine below_set ?_ GE303.out | refine below_set ?_ GE304.out) | exact HB.out)) hb)
             clear HO_8
             clear HO_296006
             clear HO_296007
             clear HO_304006
             clear HO_304007
             clear HO_305006
             clear HO_305007
             clear HO307
             clear BK295
             clear BK303
             clear BK304
             clear HB
             have HO_8 := n0_
             have HO_296006 := n1_
             have HO_296007 := n2_
             have HO_304006 := n3_
             have HO_304007 := n4_
             have HO_305006 := n5_
             have HO_305007 := n6_
             have HO307 := n7_
             have BK295 := n8_
             have BK303 := n9_
             have BK304 := n10_
             have HB := n11_
             clear n0_ n1_ n2_ n3_ n4_ n5_ n6_ n7_ n8_ n9_ n10_ n11_
             (try clear hb)
             (try clear hb2)
             (try clear hk)
             (try clear hi)
             obtain ⟨Ao103, co103, eo103⟩ := Kd.R_slice HO307.out
             (first | subst eo103 | (injection eo103 with f1_ f2_ f3_; have f4_ := f1_.symm; have f5_ := f3_.symm; clear f1_ f2_ f3_; subst f4_; subst f5_))
             refine hK.out _ _ ⟨(blk_cell BK303.out 0).trans rfl, (blk_cell BK303.out 1).trans rfl, (blk_cell BK303.out 2).trans rfl, (blk_cell BK303.out 3).trans rfl, (blk_cell BK303.out 4).trans rfl, (blk_cell BK303.out 5).trans rfl, (blk_cell BK303.out 6).trans rfl, (blk_cell BK303.out 7).trans rfl, HS8_, HS9_⟩ (fun hHeld => ?_)
             clear hK K
             refine norm_ (a' := ?_) ?_ ?_
             rotate_left
             ·show Act.put _ (some 69) _ = _
              simp only [Act.put, List.setIfInBounds_toArray, List.set_cons_zero, List.set_cons_succ, i64_w, i32_w]
              rfl
             refine pure_ (i := 3) (N := some 70) (v := ?_) (a' := ?_) #[true, true, true, true, false, false, false, false, false, false, false, false, false, false, false, false, false, false, false] rfl rfl (any_of HT_.out (by kernel_rfl)) (fun _ _ _ h => h) (Or.inl ⟨by rfl, ?_⟩) ?_ ?_
             rotate_left
             ·intro w'
              go_simp
              with_reducible rfl
             rotate_left
             ·simp only [Act.put, List.setIfInBounds_toArray, List.set_cons_zero, List.set_cons_succ, i64_w, i32_w]
              rfl
             refine pure_ (i := 4) (N := some 71) (v := ?_) (a' := ?_) #[true, true, true, true, true, false, false, false, false, false, false, false, false, false, false, false, false, false, false] rfl rfl (any_of HT_.out (by kernel_rfl)) (fun _ _ _ h => h) (Or.inl ⟨by rfl, ?_⟩) ?_ ?_
             rotate_left
             ·intro w'
              go_simp
              with_reducible rfl
             rotate_left
             ·simp only [Act.put, List.setIfInBounds_toArray, List.set_cons_zero, List.set_cons_succ, i64_w, i32_w]
              rfl
             refine pure_ (i := 5) (N := some 72) (v := ?_) (a' := ?_) #[true, true, true, true, true, true, false, false, false, false, false, false, false, false, false, false, false, false, false] rfl rfl (any_of HT_.out (by kernel_rfl)) (fun _ _ _ h => h) (Or.inl ⟨by rfl, ?_⟩) ?_ ?_
             rotate_left
             ·intro w'
              go_simp
              with_reducible rfl
             rotate_left
             ·simp only [Act.put, List.setIfInBounds_toArray, List.set_cons_zero, List.set_cons_succ, i64_w, i32_w]
              rfl
             refine pure_ (i := 6) (N := some 73) (v := ?_) (a' := ?_) #[true, true, true, true, true, true, true, false, false, false, false, false, false, false, false, false, false, false, false] rfl rfl (any_of HT_.out (by kernel_rfl)) (fun _ _ _ h => h) (Or.inl ⟨by rfl, ?_⟩) ?_ ?_
             rotate_left
             ·intro w'
              go_simp
              with_reducible rfl
             rotate_left
             ·simp only [Act.put, List.setIfInBounds_toArray, List.set_cons_zero, List.set_cons_succ, i64_w, i32_w]
              rfl
             refine pure_ (i := 7) (N := some 74) (v := ?_) (a' := ?_) #[true, true, true, true, true, true, true, true, false, false, false, false, false, false, false, false, false, false, false] rfl rfl (any_of HT_.out (by kernel_rfl)) (fun _ _ _ h => h) (Or.inl ⟨by rfl, ?_⟩) ?_ ?_
             rotate_left
             ·intro w'
              go_simp
              with_reducible rfl
             rotate_left
             ·simp only [Act.put, List.setIfInBounds_toArray, List.set_cons_zero, List.set_cons_succ, i64_w, i32_w]
              rfl
             refine pure_ (i := 8) (N := some 75) (v := ?_) (a' := ?_) #[true, true, true, true, true, true, true, true, true, false, false, false, false, false, false, false, false, false, false] rfl rfl (any_of HT_.out (by kernel_rfl)) (fun _ _ _ h => h) (Or.inl ⟨by rfl, ?_⟩) ?_ ?_
             rotate_left
             ·intro w'
              go_simp
              with_reducible rfl
             rotate_left
             ·simp only [Act.put, List.setIfInBounds_toArray, List.set_cons_zero, List.set_cons_succ, i64_w, i32_w]
              rfl
             refine pure_ (i := 9) (N := some 76) (v := ?_) (a' := ?_) #[true, true, true, true, true, true, true, true, true, true, false, false, false, false, false, false, false, false, false] rfl rfl (any_of HT_.out (by kernel_rfl)) (fun _ _ _ h => h) (Or.inl ⟨by rfl, ?_⟩) ?_ ?_
             rotate_left
             ·intro w'
              go_simp
              with_reducible rfl
             rotate_left
             ·simp only [Act.put, List.setIfInBounds_toArray, List.set_cons_zero, List.set_cons_succ, i64_w, i32_w]
              rfl
             refine pure_ (i := 10) (N := some 77) (v := ?_) (a' := ?_) #[true, true, true, true, true, true, true, true, true, true, true, false, false, false, false, false, false, false, false] rfl rfl (any_of HT_.out (by kernel_rfl)) (fun _ _ _ h => h) (Or.inl ⟨by rfl, ?_⟩) ?_ ?_
             rotate_left
             ·intro w'
              go_simp
              with_reducible rfl
             rotate_left
             ·simp only [Act.put, List.setIfInBounds_toArray, List.set_cons_zero, List.set_cons_succ, i64_w, i32_w]
              rfl
             refine pure_ (i := 12) (N := some 79) (v := ?_) (a' := ?_) #[true, true, true, true, true, true, true, true, true, true, true, false, true, false, false, false, false, false, false] rfl rfl (any_of HT_.out (by kernel_rfl)) (fun _ _ _ h => h) (Or.inl ⟨by rfl, ?_⟩) ?_ ?_
             rotate_left
             ·intro w'
              go_simp
              with_reducible rfl
             rotate_left
             ·simp only [Act.put, List.setIfInBounds_toArray, List.set_cons_zero, List.set_cons_succ, i64_w, i32_w]
              rfl
             refine pure_ (i := 13) (N := some 80) (v := ?_) (a' := ?_) #[true, true, true, true, true, true, true, true, true, true, true, false, true, true, false, false, false, false, false] rfl rfl (any_of HT_.out (by kernel_rfl)) (fun _ _ _ h => h) (Or.inl ⟨by rfl, ?_⟩) ?_ ?_
             rotate_left
             ·intro w'
              go_simp
              with_reducible rfl
             rotate_left
             ·simp only [Act.put, List.setIfInBounds_toArray, List.set_cons_zero, List.set_cons_succ, i64_w, i32_w]
              rfl
             refine pure_ (i := 14) (N := some 81) (v := ?_) (a' := ?_) #[true, true, true, true, true, true, true, true, true, true, true, false, true, true, true, false, false, false, false] rfl rfl (any_of HT_.out (by kernel_rfl)) (fun _ _ _ h => h) (Or.inl ⟨by rfl, ?_⟩) ?_ ?_
             rotate_left
             ·intro w'
              go_simp
              with_reducible rfl
             rotate_left
             ·simp only [Act.put, List.setIfInBounds_toArray, List.set_cons_zero, List.set_cons_succ, i64_w, i32_w]
              rfl
             refine take_ (i := 11) (N := some 78) (v := ?_) (a' := ?_) #[true, true, true, true, true, true, true, true, true, true, true, true, true, true, true, false, false, false, false] rfl rfl (take_ofW HT_.out HW_.out (by kernel_rfl)) (fun _ _ _ h => h) (Or.inl ⟨by rfl, ?_⟩) hHeld ?_ ?_
             rotate_left
             ·rintro w' ⟨s0, s1, s2, s3, s4, s5, s6, s7, s8, s9⟩
              go_simp
              with_reducible rfl
             rotate_left
             ·simp only [Act.put, List.setIfInBounds_toArray, List.set_cons_zero, List.set_cons_succ, i64_w, i32_w]
              rfl
             refine take_ (i := 15) (N := some 82) (v := ?_) (a' := ?_) #[true, true, true, true, true, true, true, true, true, true, true, true, true, true, true, true, false, false, false] rfl rfl (take_ofW HT_.out HW_.out (by kernel_rfl)) (fun _ _ _ h => h) (Or.inl ⟨by rfl, ?_⟩) hHeld ?_ ?_
             rotate_left
             ·rintro w' ⟨s0, s1, s2, s3, s4, s5, s6, s7, s8, s9⟩
              go_simp
              with_reducible rfl
             rotate_left
             ·simp only [Act.put, List.setIfInBounds_toArray, List.set_cons_zero, List.set_cons_succ, i64_w, i32_w]
              rfl
             refine pure_ (i := 16) (N := some 83) (v := ?_) (a' := ?_) #[true, true, true, true, true, true, true, true, true, true, true, true, true, true, true, true, true, false, false] rfl rfl (any_of HT_.out (by kernel_rfl)) (fun _ _ _ h => h) (Or.inl ⟨by rfl, ?_⟩) ?_ ?_
             rotate_left
             ·intro w'
              go_simp
              with_reducible rfl
             rotate_left
             ·simp only [Act.put, List.setIfInBounds_toArray, List.set_cons_zero, List.set_cons_succ, i64_w, i32_w]
              rfl
             refine pure_ (i := 17) (N := some 84) (v := ?_) (a' := ?_) #[true, true, true, true, true, true, true, true, true, true, true, true, true, true, true, true, true, true, false] rfl rfl (any_of HT_.out (by kernel_rfl)) (fun _ _ _ h => h) (Or.inl ⟨by rfl, ?_⟩) ?_ ?_
             rotate_left
             ·intro w'
              go_simp
              with_reducible rfl
             rotate_left
             ·simp only [Act.put, List.setIfInBounds_toArray, List.set_cons_zero, List.set_cons_succ, i64_w, i32_w]
              rfl
             refine pure_ (i := 18) (N := some 6) (v := ?_) (a' := ?_) #[true, true, true, true, true, true, true, true, true, true, true, true, true, true, true, true, true, true, true] rfl rfl (any_of HT_.out (by kernel_rfl)) (fun _ _ _ h => h) (Or.inl ⟨by rfl, ?_⟩) ?_ ?_
             rotate_left
             ·intro w'
              go_simp
              with_reducible rfl
             rotate_left
             ·simp only [Act.put, List.setIfInBounds_toArray, List.set_cons_zero, List.set_cons_succ, i64_w, i32_w]
              rfl
             refine done_ (done_of HT_.out (by kernel_rfl)) ?_
             try go_wp2
             go_ret
             exact ⟨by first | rfl | (simp [errW_none, errW_some] <;> rfl) | (simp only [← hji90]; first | rfl | (simp [errW_none, errW_some] <;> rfl)) | (simp [*, errW_none, errW_some] <;> rfl), by repeat (first | (with_reducible first | exact HB.out | apply below_alloc | apply pw_below_drewN | apply below_drew1 | refine below_set ?_ GE295.out | refine below_set ?_ GE303.out | refine below_set ?_ GE304.out) | exact HB.out)⟩
            ·rw [if_neg c92] at H
             exact absurd H (by simp)
           ·rw [if_neg c91] at H
            exact absurd H (by simp)
          ·rw [if_neg c89] at H
           exact absurd H (by simp)
         ·rw [if_neg c88] at H
          have c88b0 : ((t305.length : Int) == 1) = false := beq_eq_false_iff_ne.mpr c88
          have c88b1 : ((t305.length : Int) != 1) = true := bne_iff_ne.mpr c88
          exact absurd ((Option.some.inj H).trans hr_.out) (by decide)
        ·replace c87 := Bool.eq_false_iff.mpr c87
         subst c87
         have H1 : (some false) = some r := by rw [if_neg (show ¬ (false = true) by decide)] at H; exact H
         clear H
         have H := H1
         clear H1
         exact absurd ((Option.some.inj H).trans hr_.out) (by decide)

end Go.Proofs.Ytmapllahhpdedaa.P
